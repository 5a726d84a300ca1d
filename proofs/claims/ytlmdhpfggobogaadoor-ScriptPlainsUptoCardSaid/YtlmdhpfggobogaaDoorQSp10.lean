import Derived.Test.YtlmdhpfggobogaaDoorQSp5
import Derived.Great.BuildSlice
import Derived.Deep.WholeRow
import Derived.Test.YtlmdhpfggobogaaDoorQSp6
import Derived.Test.YtlmdhpfggobogaaDoorQSp7
/- The reference's word and shape of a kind: tables of 17 texts, read at the kind. -/
namespace Go.Proofs.YtlmdhpfggobogaaDoor.G
open Go.RowKit Go.Proofs.YtlmdhpfggobogaaDoorW.PrintWords Go.Proofs.YtlmdhpfggobogaaDoorW.PrintLast Go.Proofs.YtlmdhpfggobogaaDoorW.PrintMore
set_option linter.unusedVariables false
theorem kind_cases (k : Int) : k = 1 ∨ k = 2 ∨ k = 3 ∨ k = 4 ∨ k = 5 ∨ k = 6 ∨ k = 7 ∨ k = 8 ∨ k = 9 ∨ k = 10 ∨ k = 11 ∨ k = 12 ∨ k = 13 ∨ k = 14 ∨ k = 15 ∨ k = 16 ∨ k < 1 ∨ 16 < k := by omega
theorem st95 {ops : Array Oper} {rest : List Oper} {o : Oper} {a : Act} {Q : Exit → Act → World → Prop} {w : World} {O C : Array Value} (hgd : o.guard = none)
  (ho : o.op = .store 95 (.tmp 3) (.tmp 4)) (hd : o.dst = none) (hx : a.eval (.tmp 3) = .pointer (some ⟨w.heap.size, 0, none⟩)) (hy : a.eval (.tmp 4) = .agg C)
  (hO : O.size = 17) (hC : C.size = 17) (h1 : C.all (·.oneCell') = true) (h : wpList Tryd.prog ops Q rest a (w.alloc (.cells C 95))) :
  wpList Tryd.prog ops Q (o :: rest) a (w.alloc (.cells O 95)) :=
 wpList_store_rowTo hgd 95 (.tmp 3) (.tmp 4) ho hd w.heap.size C hx hy 95 O (heap_alloc_last w _) (by rw [hC]; kernel_rfl) (by omega) h1
  (by rw [show (w.alloc (.cells O 95)).setRow w.heap.size C = w.alloc (.cells C 95) from World.setRow_alloc_new w O C 95]; exact h)
def barrowref24_word.f (a0 : Int) : Option ByteArray := if a0 = 1 then some (⟨#[115, 101, 116]⟩ : ByteArray) else (if a0 = 2 then some (⟨#[97, 100, 100]⟩ : ByteArray) else (if a0 = 3 then some (⟨#[114, 101, 109, 111, 118, 101]⟩ : ByteArray) else (if a0 = 4 then some (⟨#[114, 101, 109, 111, 118, 101, 116, 111]⟩ : ByteArray) else (if a0 = 5 then some (⟨#[99, 108, 101, 97, 114]⟩ : ByteArray) else (if a0 = 6 then some (⟨#[99, 108, 101, 97, 114, 116, 111]⟩ : ByteArray) else (if a0 = 7 then some (⟨#[114, 101, 97, 100]⟩ : ByteArray) else (if a0 = 8 then some (⟨#[115, 121, 110, 99]⟩ : ByteArray) else (if a0 = 9 then some (⟨#[102, 117, 108, 108]⟩ : ByteArray) else (if a0 = 10 then some (⟨#[97, 115, 107]⟩ : ByteArray) else (if a0 = 11 then some (⟨#[100, 101, 108, 105, 118, 101, 114]⟩ : ByteArray) else (if a0 = 12 then some (⟨#[99, 111, 112, 121]⟩ : ByteArray) else (if a0 = 13 then some (⟨#[100, 114, 111, 112]⟩ : ByteArray) else (if a0 = 14 then some (⟨#[116, 114, 105, 109]⟩ : ByteArray) else (if a0 = 15 then some (⟨#[114, 101, 115, 116, 97, 114, 116]⟩ : ByteArray) else (if a0 = 16 then some (⟨#[112, 117, 115, 104]⟩ : ByteArray) else (some (⟨#[111, 112]⟩ : ByteArray)))))))))))))))))
def barrowref24_word.C : Array Value := #[.string (⟨#[111, 112]⟩ : ByteArray), .string (⟨#[115, 101, 116]⟩ : ByteArray), .string (⟨#[97, 100, 100]⟩ : ByteArray), .string (⟨#[114, 101, 109, 111, 118, 101]⟩ : ByteArray), .string (⟨#[114, 101, 109, 111, 118, 101, 116, 111]⟩ : ByteArray), .string (⟨#[99, 108, 101, 97, 114]⟩ : ByteArray), .string (⟨#[99, 108, 101, 97, 114, 116, 111]⟩ : ByteArray), .string (⟨#[114, 101, 97, 100]⟩ : ByteArray), .string (⟨#[115, 121, 110, 99]⟩ : ByteArray), .string (⟨#[102, 117, 108, 108]⟩ : ByteArray), .string (⟨#[97, 115, 107]⟩ : ByteArray), .string (⟨#[100, 101, 108, 105, 118, 101, 114]⟩ : ByteArray), .string (⟨#[99, 111, 112, 121]⟩ : ByteArray), .string (⟨#[100, 114, 111, 112]⟩ : ByteArray), .string (⟨#[116, 114, 105, 109]⟩ : ByteArray), .string (⟨#[114, 101, 115, 116, 97, 114, 116]⟩ : ByteArray), .string (⟨#[112, 117, 115, 104]⟩ : ByteArray)]
theorem barrowref24_word.cell (r : ByteArray) (a0 : Int) (w : World) (h : barrowref24_word.f a0 = some r) (h1 : 1 ≤ a0) (h2 : a0 ≤ 16) : (w.alloc (.cells #[.string (⟨#[111, 112]⟩ : ByteArray), .string (⟨#[115, 101, 116]⟩ : ByteArray), .string (⟨#[97, 100, 100]⟩ : ByteArray), .string (⟨#[114, 101, 109, 111, 118, 101]⟩ : ByteArray), .string (⟨#[114, 101, 109, 111, 118, 101, 116, 111]⟩ : ByteArray), .string (⟨#[99, 108, 101, 97, 114]⟩ : ByteArray), .string (⟨#[99, 108, 101, 97, 114, 116, 111]⟩ : ByteArray), .string (⟨#[114, 101, 97, 100]⟩ : ByteArray), .string (⟨#[115, 121, 110, 99]⟩ : ByteArray), .string (⟨#[102, 117, 108, 108]⟩ : ByteArray), .string (⟨#[97, 115, 107]⟩ : ByteArray), .string (⟨#[100, 101, 108, 105, 118, 101, 114]⟩ : ByteArray), .string (⟨#[99, 111, 112, 121]⟩ : ByteArray), .string (⟨#[100, 114, 111, 112]⟩ : ByteArray), .string (⟨#[116, 114, 105, 109]⟩ : ByteArray), .string (⟨#[114, 101, 115, 116, 97, 114, 116]⟩ : ByteArray), .string (⟨#[112, 117, 115, 104]⟩ : ByteArray)] 95)).cell? ⟨w.heap.size, a0.toNat, none⟩ = some (.string r) := by
  rw [cell_of_row _ w.heap.size a0.toNat _ 95 (0, 0) (heap_alloc_last w _)]
  unfold barrowref24_word.f at h
  rcases kind_cases a0 with rfl | rfl | rfl | rfl | rfl | rfl | rfl | rfl | rfl | rfl | rfl | rfl | rfl | rfl | rfl | rfl | h3 | h3
  all_goals first | (have h4 := Option.some.inj h; subst h4; rfl) | omega
set_option maxHeartbeats 4000000 in
set_option maxRecDepth 100000 in
theorem barrowref24_word.calls (a0 : Int) (r : ByteArray) (w : World) (h : barrowref24_word.f a0 = some r) :
    Calls Tryd.prog 52 #[.int .i64 a0] w fun e w' => e = .returned (.string r) ∧ Below w.heap.size w w' := by
  have hb : Below w.heap.size w (w.alloc (.cells #[.string (⟨#[111, 112]⟩ : ByteArray), .string (⟨#[115, 101, 116]⟩ : ByteArray), .string (⟨#[97, 100, 100]⟩ : ByteArray), .string (⟨#[114, 101, 109, 111, 118, 101]⟩ : ByteArray), .string (⟨#[114, 101, 109, 111, 118, 101, 116, 111]⟩ : ByteArray), .string (⟨#[99, 108, 101, 97, 114]⟩ : ByteArray), .string (⟨#[99, 108, 101, 97, 114, 116, 111]⟩ : ByteArray), .string (⟨#[114, 101, 97, 100]⟩ : ByteArray), .string (⟨#[115, 121, 110, 99]⟩ : ByteArray), .string (⟨#[102, 117, 108, 108]⟩ : ByteArray), .string (⟨#[97, 115, 107]⟩ : ByteArray), .string (⟨#[100, 101, 108, 105, 118, 101, 114]⟩ : ByteArray), .string (⟨#[99, 111, 112, 121]⟩ : ByteArray), .string (⟨#[100, 114, 111, 112]⟩ : ByteArray), .string (⟨#[116, 114, 105, 109]⟩ : ByteArray), .string (⟨#[114, 101, 115, 116, 97, 114, 116]⟩ : ByteArray), .string (⟨#[112, 117, 115, 104]⟩ : ByteArray)] 95)) := (Below.refl _ w).alloc (Nat.le_refl _) _
  by_cases h1 : a0 < 1
  · unfold barrowref24_word.f at h
    (iterate 16 rw [if_neg (by omega)] at h); have h2 := Option.some.inj h; subst h2; clear h
    have k1 := decide_eq_true h1
    go_enter Tryd.func52, Tryd.ntmps52
    go_wp2_with (first | (refine st95 rfl rfl rfl rfl rfl rfl rfl rfl ?_) | go_in)
    repeat (go_quiet (fail); try go_wp2)
    go_ret
    exact ⟨rfl, hb⟩
  · by_cases h2 : a0 > 16
    · unfold barrowref24_word.f at h
      (iterate 16 rw [if_neg (by omega)] at h); have h3 := Option.some.inj h; subst h3; clear h
      have k1 := decide_eq_false h1
      have k2 := decide_eq_true h2
      go_enter Tryd.func52, Tryd.ntmps52
      go_wp2_with (first | (refine st95 rfl rfl rfl rfl rfl rfl rfl rfl ?_) | go_in)
      repeat (go_quiet (fail); try go_wp2)
      go_ret
      exact ⟨rfl, hb⟩
    · have hc := barrowref24_word.cell r a0 w h (by omega) (by omega)
      have k1 := decide_eq_false h1
      have k2 := decide_eq_false h2
      have k3 : (0 ≤ a0) = True := eq_true (by omega)
      have k4 : (a0 < 17) = True := eq_true (by omega)
      clear h
      go_enter Tryd.func52, Tryd.ntmps52
      go_wp2_with (first | (refine st95 rfl rfl rfl rfl rfl rfl rfl rfl ?_) | go_in)
      repeat (go_quiet (fail); try go_wp2)
      go_ret
      exact ⟨rfl, hb⟩
def barrowref24_shape.f (a0 : Int) : Option ByteArray := if a0 = 1 then some (⟨#[82, 67, 83, 81]⟩ : ByteArray) else (if a0 = 2 then some (⟨#[82, 67, 83, 81]⟩ : ByteArray) else (if a0 = 3 then some (⟨#[82, 67, 83]⟩ : ByteArray) else (if a0 = 4 then some (⟨#[82, 83, 78]⟩ : ByteArray) else (if a0 = 5 then some (⟨#[82, 67]⟩ : ByteArray) else (if a0 = 6 then some (⟨#[82, 78]⟩ : ByteArray) else (if a0 = 7 then some (⟨#[82, 67]⟩ : ByteArray) else (if a0 = 8 then some (⟨#[82, 84]⟩ : ByteArray) else (if a0 = 9 then some (⟨#[82, 84]⟩ : ByteArray) else (if a0 = 10 then some (⟨#[82, 84]⟩ : ByteArray) else (if a0 = 11 then some (⟨#[78]⟩ : ByteArray) else (if a0 = 12 then some (⟨#[78]⟩ : ByteArray) else (if a0 = 13 then some (⟨#[78]⟩ : ByteArray) else (if a0 = 14 then some (⟨#[78, 81]⟩ : ByteArray) else (if a0 = 15 then some (⟨#[82]⟩ : ByteArray) else (if a0 = 16 then some (⟨#[82, 84, 78]⟩ : ByteArray) else (some (⟨#[75]⟩ : ByteArray)))))))))))))))))
def barrowref24_shape.C : Array Value := #[.string (⟨#[75]⟩ : ByteArray), .string (⟨#[82, 67, 83, 81]⟩ : ByteArray), .string (⟨#[82, 67, 83, 81]⟩ : ByteArray), .string (⟨#[82, 67, 83]⟩ : ByteArray), .string (⟨#[82, 83, 78]⟩ : ByteArray), .string (⟨#[82, 67]⟩ : ByteArray), .string (⟨#[82, 78]⟩ : ByteArray), .string (⟨#[82, 67]⟩ : ByteArray), .string (⟨#[82, 84]⟩ : ByteArray), .string (⟨#[82, 84]⟩ : ByteArray), .string (⟨#[82, 84]⟩ : ByteArray), .string (⟨#[78]⟩ : ByteArray), .string (⟨#[78]⟩ : ByteArray), .string (⟨#[78]⟩ : ByteArray), .string (⟨#[78, 81]⟩ : ByteArray), .string (⟨#[82]⟩ : ByteArray), .string (⟨#[82, 84, 78]⟩ : ByteArray)]
theorem barrowref24_shape.cell (r : ByteArray) (a0 : Int) (w : World) (h : barrowref24_shape.f a0 = some r) (h1 : 1 ≤ a0) (h2 : a0 ≤ 16) : (w.alloc (.cells #[.string (⟨#[75]⟩ : ByteArray), .string (⟨#[82, 67, 83, 81]⟩ : ByteArray), .string (⟨#[82, 67, 83, 81]⟩ : ByteArray), .string (⟨#[82, 67, 83]⟩ : ByteArray), .string (⟨#[82, 83, 78]⟩ : ByteArray), .string (⟨#[82, 67]⟩ : ByteArray), .string (⟨#[82, 78]⟩ : ByteArray), .string (⟨#[82, 67]⟩ : ByteArray), .string (⟨#[82, 84]⟩ : ByteArray), .string (⟨#[82, 84]⟩ : ByteArray), .string (⟨#[82, 84]⟩ : ByteArray), .string (⟨#[78]⟩ : ByteArray), .string (⟨#[78]⟩ : ByteArray), .string (⟨#[78]⟩ : ByteArray), .string (⟨#[78, 81]⟩ : ByteArray), .string (⟨#[82]⟩ : ByteArray), .string (⟨#[82, 84, 78]⟩ : ByteArray)] 95)).cell? ⟨w.heap.size, a0.toNat, none⟩ = some (.string r) := by
  rw [cell_of_row _ w.heap.size a0.toNat _ 95 (0, 0) (heap_alloc_last w _)]
  unfold barrowref24_shape.f at h
  rcases kind_cases a0 with rfl | rfl | rfl | rfl | rfl | rfl | rfl | rfl | rfl | rfl | rfl | rfl | rfl | rfl | rfl | rfl | h3 | h3
  all_goals first | (have h4 := Option.some.inj h; subst h4; rfl) | omega
set_option maxHeartbeats 4000000 in
set_option maxRecDepth 100000 in
theorem barrowref24_shape.calls (a0 : Int) (r : ByteArray) (w : World) (h : barrowref24_shape.f a0 = some r) :
    Calls Tryd.prog 44 #[.int .i64 a0] w fun e w' => e = .returned (.string r) ∧ Below w.heap.size w w' := by
  have hb : Below w.heap.size w (w.alloc (.cells #[.string (⟨#[75]⟩ : ByteArray), .string (⟨#[82, 67, 83, 81]⟩ : ByteArray), .string (⟨#[82, 67, 83, 81]⟩ : ByteArray), .string (⟨#[82, 67, 83]⟩ : ByteArray), .string (⟨#[82, 83, 78]⟩ : ByteArray), .string (⟨#[82, 67]⟩ : ByteArray), .string (⟨#[82, 78]⟩ : ByteArray), .string (⟨#[82, 67]⟩ : ByteArray), .string (⟨#[82, 84]⟩ : ByteArray), .string (⟨#[82, 84]⟩ : ByteArray), .string (⟨#[82, 84]⟩ : ByteArray), .string (⟨#[78]⟩ : ByteArray), .string (⟨#[78]⟩ : ByteArray), .string (⟨#[78]⟩ : ByteArray), .string (⟨#[78, 81]⟩ : ByteArray), .string (⟨#[82]⟩ : ByteArray), .string (⟨#[82, 84, 78]⟩ : ByteArray)] 95)) := (Below.refl _ w).alloc (Nat.le_refl _) _
  by_cases h1 : a0 < 1
  · unfold barrowref24_shape.f at h
    (iterate 16 rw [if_neg (by omega)] at h); have h2 := Option.some.inj h; subst h2; clear h
    have k1 := decide_eq_true h1
    go_enter Tryd.func44, Tryd.ntmps44
    go_wp2_with (first | (refine st95 rfl rfl rfl rfl rfl rfl rfl rfl ?_) | go_in)
    repeat (go_quiet (fail); try go_wp2)
    go_ret
    exact ⟨rfl, hb⟩
  · by_cases h2 : a0 > 16
    · unfold barrowref24_shape.f at h
      (iterate 16 rw [if_neg (by omega)] at h); have h3 := Option.some.inj h; subst h3; clear h
      have k1 := decide_eq_false h1
      have k2 := decide_eq_true h2
      go_enter Tryd.func44, Tryd.ntmps44
      go_wp2_with (first | (refine st95 rfl rfl rfl rfl rfl rfl rfl rfl ?_) | go_in)
      repeat (go_quiet (fail); try go_wp2)
      go_ret
      exact ⟨rfl, hb⟩
    · have hc := barrowref24_shape.cell r a0 w h (by omega) (by omega)
      have k1 := decide_eq_false h1
      have k2 := decide_eq_false h2
      have k3 : (0 ≤ a0) = True := eq_true (by omega)
      have k4 : (a0 < 17) = True := eq_true (by omega)
      clear h
      go_enter Tryd.func44, Tryd.ntmps44
      go_wp2_with (first | (refine st95 rfl rfl rfl rfl rfl rfl rfl rfl ?_) | go_in)
      repeat (go_quiet (fail); try go_wp2)
      go_ret
      exact ⟨rfl, hb⟩
end Go.Proofs.YtlmdhpfggobogaaDoor.G

-- PRINTED by print.py (a twelfth state) out of the translation. Not trusted: Lean checks it.
namespace Go.Proofs.YtlmdhpfggobogaaDoor.G
open Go.RowKit Go.Proofs.YtlmdhpfggobogaaDoorW.PrintWords Go.Proofs.YtlmdhpfggobogaaDoorW.PrintLast Go.Proofs.YtlmdhpfggobogaaDoorW.PrintMore
attribute [local go_sem] max2_int min2_int max_two min_two max_three min_three max_four min_four   -- for this text's walks alone
set_option linter.unusedVariables false
set_option linter.unusedSimpArgs false

/-! ### barrowref24_line: function 34 -/
mutual
def barrowref24_line.l0 : Nat → List Int → ByteArray → Int → Int → Int → Int → Int → ByteArray → Int → Int → Option (List Int)
 | 0, _, _, _, _, _, _, _, _, _, _ => none
 | k + 1, x0, x5, x6, x277000, x277001, x277002, x277003, x277004, x277005, x277006 => if x6 < (x5.size : Int) then (if 0 ≤ x6 then (if x0.length < 140737488355328 then (barrowref24_line.l0 k (x0 ++ [bt x5 x6]) x5 (wrap64 (x6 + 1)) x277000 x277001 x277002 x277003 x277004 x277005 x277006) else (none)) else (none)) else ((barrowref24_shape.f x277000).bind fun t281 => (barrowref24_line.l1 k x0 t281 0 x277000 x277001 x277002 x277003 x277004 x277005 x277006))
def barrowref24_line.l1 : Nat → List Int → ByteArray → Int → Int → Int → Int → Int → ByteArray → Int → Int → Option (List Int)
 | 0, _, _, _, _, _, _, _, _, _, _ => none
 | k + 1, x0, x7, x8, x277000, x277001, x277002, x277003, x277004, x277005, x277006 => if x8 < (x7.size : Int) then (if x0.length < 140737488355328 then ((some (x0 ++ [32] : List Int)).bind fun y282 => (if 0 ≤ x8 then (if (bt x7 x8) = 83 then ((barrowref24_sku.f k y282 x277004).bind fun t285 => (barrowref24_line.l1 k t285 x7 (wrap64 (x8 + 1)) x277000 x277001 x277002 x277003 x277004 x277005 x277006)) else ((barrowref24_get.f x277000 x277001 x277002 x277003 x277004 x277005 x277006 (bt x7 x8)).bind fun t288 => ((barrowref24_number.f k y282 t288).bind fun t289 => (barrowref24_line.l1 k t289 x7 (wrap64 (x8 + 1)) x277000 x277001 x277002 x277003 x277004 x277005 x277006)))) else (none))) else (none)) else (some x0)
end
def barrowref24_line.f (k : Nat) (l0 : List Int) (a1_0 : Int) (a1_1 : Int) (a1_2 : Int) (a1_3 : Int) (a1_4 : ByteArray) (a1_5 : Int) (a1_6 : Int) : Option (List Int) := (barrowref24_word.f a1_0).bind fun t277 => (barrowref24_line.l0 k l0 t277 0 a1_0 a1_1 a1_2 a1_3 a1_4 a1_5 a1_6)
theorem barrowref24_line.mono_l : ∀ k, (∀ y0 y1 y2 y3 y4 y5 y6 y7 y8 y9, LeO (barrowref24_line.l0 k y0 y1 y2 y3 y4 y5 y6 y7 y8 y9) (barrowref24_line.l0 (k + 1) y0 y1 y2 y3 y4 y5 y6 y7 y8 y9)) ∧ (∀ y0 y1 y2 y3 y4 y5 y6 y7 y8 y9, LeO (barrowref24_line.l1 k y0 y1 y2 y3 y4 y5 y6 y7 y8 y9) (barrowref24_line.l1 (k + 1) y0 y1 y2 y3 y4 y5 y6 y7 y8 y9))
 | 0 => ⟨fun _ _ _ _ _ _ _ _ _ _ r h => by simp [barrowref24_line.l0] at h, fun _ _ _ _ _ _ _ _ _ _ r h => by simp [barrowref24_line.l1] at h⟩
 | k + 1 => by
  obtain ⟨ih0, ih1⟩ := barrowref24_line.mono_l k
  refine ⟨?_, ?_⟩
  ·intro y0 y1 y2 y3 y4 y5 y6 y7 y8 y9
   unfold barrowref24_line.l0
   repeat' first
   | (with_reducible exact ih0 _ _ _ _ _ _ _ _ _ _)
   | (with_reducible exact ih1 _ _ _ _ _ _ _ _ _ _)
   | (with_reducible exact barrowref24_number.mono _ _ _)
   | (with_reducible exact barrowref24_sku.mono _ _ _)
   | (with_reducible exact LeO.refl _)
   | (with_reducible exact LeO.none _)
   | (with_reducible refine LeO.ite ?_ ?_)
   | (with_reducible refine LeO.bind ?_ (fun _ => ?_))
   | exact ih0 _ _ _ _ _ _ _ _ _ _
   | exact ih1 _ _ _ _ _ _ _ _ _ _
   | exact barrowref24_number.mono _ _ _
   | exact barrowref24_sku.mono _ _ _
   | exact LeO.none _
   | refine LeO.ite ?_ ?_
   | refine LeO.bind ?_ (fun _ => ?_)
  ·intro y0 y1 y2 y3 y4 y5 y6 y7 y8 y9
   unfold barrowref24_line.l1
   repeat' first
   | (with_reducible exact ih0 _ _ _ _ _ _ _ _ _ _)
   | (with_reducible exact ih1 _ _ _ _ _ _ _ _ _ _)
   | (with_reducible exact barrowref24_number.mono _ _ _)
   | (with_reducible exact barrowref24_sku.mono _ _ _)
   | (with_reducible exact LeO.refl _)
   | (with_reducible exact LeO.none _)
   | (with_reducible refine LeO.ite ?_ ?_)
   | (with_reducible refine LeO.bind ?_ (fun _ => ?_))
   | exact ih0 _ _ _ _ _ _ _ _ _ _
   | exact ih1 _ _ _ _ _ _ _ _ _ _
   | exact barrowref24_number.mono _ _ _
   | exact barrowref24_sku.mono _ _ _
   | exact LeO.none _
   | refine LeO.ite ?_ ?_
   | refine LeO.bind ?_ (fun _ => ?_)
theorem barrowref24_line.mono : ∀ a0 a1 a2 a3 a4 a5 a6 a7 k, LeO (barrowref24_line.f k a0 a1 a2 a3 a4 a5 a6 a7) (barrowref24_line.f (k + 1) a0 a1 a2 a3 a4 a5 a6 a7) := by
 intro a0 a1 a2 a3 a4 a5 a6 a7 k
 obtain ⟨ih0, ih1⟩ := barrowref24_line.mono_l k
 unfold barrowref24_line.f
 repeat' first
   | (with_reducible exact ih0 _ _ _ _ _ _ _ _ _ _)
   | (with_reducible exact ih1 _ _ _ _ _ _ _ _ _ _)
   | (with_reducible exact barrowref24_number.mono _ _ _)
   | (with_reducible exact barrowref24_sku.mono _ _ _)
   | (with_reducible exact LeO.refl _)
   | (with_reducible exact LeO.none _)
   | (with_reducible refine LeO.ite ?_ ?_)
   | (with_reducible refine LeO.bind ?_ (fun _ => ?_))
   | exact ih0 _ _ _ _ _ _ _ _ _ _
   | exact ih1 _ _ _ _ _ _ _ _ _ _
   | exact barrowref24_number.mono _ _ _
   | exact barrowref24_sku.mono _ _ _
   | exact LeO.none _
   | refine LeO.ite ?_ ?_
   | refine LeO.bind ?_ (fun _ => ?_)
def barrowref24_line.T13 : Bool × List (List Nat × List Nat) := (true, [([], []), ([], []), ([], []), ([], []), ([2, 3], [2, 3]), ([1, 4], [1, 4]), ([0, 5, 5], [0, 5]), ([6, 6, 0, 1, 2, 3, 4, 5, 6], [0, 6])])
def barrowref24_line.B13 : List Nat := [0, 0, 0, 0, 12, 30, 63, 127]
theorem barrowref24_line.tab13 : rtab .any (opsOf Tryd.f34 13) = barrowref24_line.T13 := by kernel_rfl
theorem barrowref24_line.bits13 : waitsOk barrowref24_line.T13.2 barrowref24_line.B13 = true := by kernel_rfl
set_option maxHeartbeats 8000000 in
set_option maxRecDepth 100000 in
theorem barrowref24_line.calls (k : Nat) (P0_ : Nat → Prop) (u9000_ : Value) (l0 : List Int) (a1_0 : Int) (a1_1 : Int) (a1_2 : Int) (a1_3 : Int) (a1_4 : ByteArray) (a1_5 : Int) (a1_6 : Int) (r : List Int) (w0 w : World) (hB : Below w0.heap.size w0 w) (ho0 : Kd.R (Kd.int .u8) 5 w w0.heap.size P0_ u9000_ l0) (h : barrowref24_line.f k l0 a1_0 a1_1 a1_2 a1_3 a1_4 a1_5 a1_6 = some r) :
  Calls Tryd.prog 34 #[u9000_, .agg #[.int .i64 a1_0, .int .i64 a1_1, .int .i64 a1_2, .int .i64 a1_3, .string a1_4, .int .i64 a1_5, .int .i64 a1_6]] w fun e w' => ∃ v0_ : Value, e = .returned (v0_) ∧ Kd.R (Kd.int .u8) 5 w' w0.heap.size (fun k_ => (P0_ k_ ∨ w.heap.size ≤ k_)) v0_ r ∧ Below w0.heap.size w0 w' ∧ Kept w w' (fun k_ => P0_ k_) := by
 have hu29 := Tryd.underlying29
 have HO0 := Aside0.mk (show Kd.R (Kd.int .u8) 5 w w0.heap.size (fun k_ => (P0_ k_ ∨ w.heap.size ≤ k_)) u9000_ l0 from Kd.R_mono ho0 (fun k_ hk => (.inl hk)))
 have HK := Aside0.mk (Kept.refl w (fun k_ => P0_ k_))
 have HW0 := Aside0.mk hB.size
 have HB := Aside0.mk hB
 clear hB
 have H : ((barrowref24_word.f a1_0).bind fun t277 => (barrowref24_line.l0 k l0 t277 0 a1_0 a1_1 a1_2 a1_3 a1_4 a1_5 a1_6)) = some r := h
 clear h
 replace H := Option.bind_eq_some_iff.mp H
 obtain ⟨t277, A30, H⟩ := H
 replace H : (barrowref24_line.l0 k l0 t277 0 a1_0 a1_1 a1_2 a1_3 a1_4 a1_5 a1_6) = some r := H
 have A3 := Aside0.mk A30
 clear A30
 have H' := Aside0.mk H
 clear H
 go_enter Tryd.func34, Tryd.ntmps34
 go_wp2_with (first | ((with_reducible refine gate_dst (N := 3) rfl ?_); refine box_event ?hg (N := 3) ?hd (cs := #[.int .i64 a1_0, .int .i64 a1_1, .int .i64 a1_2, .int .i64 a1_3, .string a1_4, .int .i64 a1_5, .int .i64 a1_6]) (t := 29) ?hr ?_; (case hd => rfl); (case hg => rfl); (case hr => first | (go_simp; done) | (go_simp; rfl)); intro gb276 hg w4 hbox hb; have n0_ := Aside0.mk (Kd.R_below (by (with_reducible repeat (first | apply Kd.R_alloc | apply Kd.R_drewN | apply Kd.R_drew)); exact HO0.out) hb); have n1_ := Aside0.mk (Kept.below (S := (fun k_ => P0_ k_)) (by repeat (first | (with_reducible first | exact HK.out | apply Kept.alloc | apply Kept.drewN | apply Kept.drew) | exact HK.out)) hb); have n2_ := Aside0.mk (below_step (by repeat (first | (with_reducible first | exact HB.out | apply below_alloc | apply pw_below_drewN | apply below_drew1) | exact HB.out)) hb); have n3_ := Aside0.mk (hbox); have n4_ := Aside0.mk ((by rw [hg]; exact (by first | exact HK.out.1 | exact (show Kept w _ (fun k_ => P0_ k_) from by repeat (first | (with_reducible first | exact HK.out | apply Kept.alloc | apply Kept.drewN | apply Kept.drew) | exact HK.out)).1) : w.heap.size ≤ gb276)); have n5_ := Aside0.mk ((by rw [hg]; exact (below_size (by repeat (first | (with_reducible first | exact HB.out | apply below_alloc | apply pw_below_drewN | apply below_drew1) | exact HB.out))) : w0.heap.size ≤ gb276)); clear HO0; clear HK; clear HB; have HO0 := n0_; have HK := n1_; have HB := n2_; have BK276 := n3_; have GW276 := n4_; have GE276 := n5_; clear n0_ n1_ n2_ n3_ n4_ n5_; clear hb hbox hg; have hcz5_0 : w4.cell? ⟨gb276, 0, none⟩ = some (.int .i64 a1_0) := (blk_cell BK276.out 0).trans rfl; have hcz5_1 : w4.cell? ⟨gb276, 1, none⟩ = some (.int .i64 a1_1) := (blk_cell BK276.out 1).trans rfl; have hcz5_2 : w4.cell? ⟨gb276, 2, none⟩ = some (.int .i64 a1_2) := (blk_cell BK276.out 2).trans rfl; have hcz5_3 : w4.cell? ⟨gb276, 3, none⟩ = some (.int .i64 a1_3) := (blk_cell BK276.out 3).trans rfl; have hcz5_4 : w4.cell? ⟨gb276, 4, none⟩ = some (.string a1_4) := (blk_cell BK276.out 4).trans rfl; have hcz5_5 : w4.cell? ⟨gb276, 5, none⟩ = some (.int .i64 a1_5) := (blk_cell BK276.out 5).trans rfl; have hcz5_6 : w4.cell? ⟨gb276, 6, none⟩ = some (.int .i64 a1_6) := (blk_cell BK276.out 6).trans rfl; have hfz5_0 := blk_frozen BK276.out 0; have hfz5_1 := blk_frozen BK276.out 1; have hfz5_2 := blk_frozen BK276.out 2; have hfz5_3 := blk_frozen BK276.out 3; have hfz5_4 := blk_frozen BK276.out 4; have hfz5_5 := blk_frozen BK276.out 5; have hfz5_6 := blk_frozen BK276.out 6) | ((with_reducible refine gate_callee (f := 52) rfl ?_); refine goesL_ (some 11) rfl rfl Tryd.func52 (by kernel_rfl) rfl #[.int .i64 a1_0] rfl (by (try simp only [List.map_toArray, List.map_cons, List.map_nil]); first | done | rfl | (simp only [List.length_drop, List.length_take]; rfl)) ?_; (with_reducible refine (barrowref24_word.calls a1_0 t277 _ A3.out).mono ?_); rintro e w6 ⟨rfl, hb⟩; refine ⟨_, rfl, ?_⟩; have n0_ := Aside0.mk (Kd.R_below (by (with_reducible repeat (first | apply Kd.R_alloc | apply Kd.R_drewN | apply Kd.R_drew)); exact HO0.out) hb); have n1_ := Aside0.mk (blk_below (g := gb276) (o := .cells #[.int .i64 a1_0, .int .i64 a1_1, .int .i64 a1_2, .int .i64 a1_3, .string a1_4, .int .i64 a1_5, .int .i64 a1_6] 29 (0, 0)) (by (with_reducible repeat (first | refine blk_drewN ?_ _ | refine blk_drew ?_ | refine blk_alloc ?_ _)); exact BK276.out) hb); have n2_ := Aside0.mk (Kept.below (S := (fun k_ => P0_ k_)) (by repeat (first | (with_reducible first | exact HK.out | apply Kept.alloc | apply Kept.drewN | apply Kept.drew | refine Kept.setCell ?_ (.inr GW276.out) _) | exact HK.out)) hb); have n3_ := Aside0.mk (below_step (by repeat (first | (with_reducible first | exact HB.out | apply below_alloc | apply pw_below_drewN | apply below_drew1 | refine below_set ?_ GE276.out) | exact HB.out)) hb); clear HO0; clear BK276; clear HK; clear HB; have HO0 := n0_; have BK276 := n1_; have HK := n2_; have HB := n3_; clear n0_ n1_ n2_ n3_; (try clear hb); (try clear hb2); (try clear hk); (try clear hi)))
 go_loopg [0, 6] k (fun kq v0 v6 w' => ∃ (x0_1 : List Int) (x6_1 : Int), v6 = .int .i64 x6_1 ∧ Aside0 (barrowref24_line.l0 kq x0_1 t277 x6_1 a1_0 a1_1 a1_2 a1_3 a1_4 a1_5 a1_6 = some r) ∧ Aside0 (kq ≤ k) ∧ Aside0 (Kd.R (Kd.int .u8) 5 w' w0.heap.size (fun k_ => (P0_ k_ ∨ w.heap.size ≤ k_)) v0 x0_1) ∧ Aside0 (w'.heap[gb276]? = some (.cells #[.int .i64 a1_0, .int .i64 a1_1, .int .i64 a1_2, .int .i64 a1_3, .string a1_4, .int .i64 a1_5, .int .i64 a1_6] 29 (0, 0))) ∧ Aside0 (Kept w w' (fun k_ => P0_ k_)) ∧ Aside0 (Below w0.heap.size w0 w'))
 case atStart => exact ⟨(l0), (0), (by first | rfl | (simp; done) | (simp [*]; done)), H', ⟨Nat.le_refl _⟩, ⟨by (with_reducible repeat (first | apply Kd.R_alloc | apply Kd.R_drewN | apply Kd.R_drew)); exact HO0.out⟩, ⟨by (with_reducible repeat (first | refine blk_drewN ?_ _ | refine blk_drew ?_ | refine blk_alloc ?_ _)); exact BK276.out⟩, ⟨by repeat (first | (with_reducible first | exact HK.out | apply Kept.alloc | apply Kept.drewN | apply Kept.drew | refine Kept.setCell ?_ (.inr GW276.out) _) | exact HK.out)⟩, ⟨by repeat (first | (with_reducible first | exact HB.out | apply below_alloc | apply pw_below_drewN | apply below_drew1 | refine below_set ?_ GE276.out) | exact HB.out)⟩⟩
 case round =>
  clear H'
  try clear p2
  try clear c3
  try clear c5
  try clear hcz5_0
  try clear hcz5_1
  try clear hcz5_2
  try clear hcz5_3
  try clear hcz5_4
  try clear hcz5_5
  try clear hcz5_6
  try clear hfz5_0
  try clear hfz5_1
  try clear hfz5_2
  try clear hfz5_3
  try clear hfz5_4
  try clear hfz5_5
  try clear hfz5_6
  obtain ⟨x0_1, x6_1, rfl, HA, HK1, HO_0, BK276, HK, HB⟩ := hrel
  cases gk with
  | zero => exact absurd HA.out (by simp [barrowref24_line.l0])
  | succ k1 =>
   have H := HA.out
   clear HA
   simp only [barrowref24_line.l0] at H
   by_cases c7 : x6_1 < (t277.size : Int)
   ·rw [if_pos c7] at H
    have c7b0 : decide (x6_1 < (t277.size : Int)) = true := decide_eq_true c7
    clear c7
    by_cases c8 : 0 ≤ x6_1
    ·rw [if_pos c8] at H
     have c8b0 : decide (0 ≤ x6_1) = true := decide_eq_true c8
     clear c8
     by_cases c10 : x0_1.length < 140737488355328
     ·rw [if_pos c10] at H
      have LMc10 := Aside0.mk c10
      clear c10
      obtain ⟨y278, hy278⟩ : ∃ y_ : List Int, y_ = (x0_1 ++ [bt t277 x6_1]) := ⟨_, rfl⟩
      replace H : (barrowref24_line.l0 k1 y278 t277 (wrap64 (x6_1 + 1)) a1_0 a1_1 a1_2 a1_3 a1_4 a1_5 a1_6) = some r := by first | (rw [hy278]; with_reducible exact H) | (have H2_ := (Option.bind_some _ _).symm.trans H; rw [hy278]; with_reducible exact H2_) | (have H2_ := (Option.bind_some _ _).symm.trans H; with_reducible exact H2_) | with_reducible exact H | (rw [hy278]; exact H) | exact H
      have Ny278 := Aside0.mk hy278
      clear hy278
      have H' := Aside0.mk H
      clear H
      have p9 : 0 ≤ (x6_1 : Int) := of_decide_eq_true (by first | (with_reducible assumption) | assumption)
      have q9 : x6_1 < (t277.size : Int) := of_decide_eq_true (by first | (with_reducible assumption) | assumption)
      have hx9 := bt_at t277 x6_1
      replace p9 := eq_true p9
      replace q9 := eq_true q9
      go_wp2_with (first | ((with_reducible refine gate_builtin (b := .append) (xs := #[.tmp 18, .tmp 22]) rfl ?_); at_builtin; refine Kd.R_append (Kd.int .u8) (w0 := w0) w0.heap.size rfl (.tmp 18) (.tmp 22) 48 5 (.int .u8 0) 1 rfl Tryd.underlying48 info5 rfl (by decide) (by omega) u0 x0_1 (bt t277 x6_1) [.int .u8 (bt t277 x6_1)] (fun k_ => (P0_ k_ ∨ w.heap.size ≤ k_)) (fun _ => False) rfl rfl ?aP (fun _ hk => hk.elim) ?aF ?aO ?aB ?aS ?aL ?_; (case aP => exact rfl); (case aB => exact (by repeat (first | (with_reducible first | exact HB.out | apply below_alloc | apply pw_below_drewN | apply below_drew1 | refine below_set ?_ GE276.out) | exact HB.out))); (case aF => exact (fun k_ hk => (.inr (Nat.le_trans (by first | exact HK.out.1 | exact (show Kept w _ (fun k_ => P0_ k_) from by repeat (first | (with_reducible first | exact HK.out | apply Kept.alloc | apply Kept.drewN | apply Kept.drew | refine Kept.setCell ?_ (.inr GW276.out) _) | exact HK.out)).1) hk)))); (case aO => exact (by (with_reducible repeat (first | apply Kd.R_alloc | apply Kd.R_drewN | apply Kd.R_drew)); exact HO_0.out)); (case aS => exact (below_size (by repeat (first | (with_reducible first | exact HB.out | apply below_alloc | apply pw_below_drewN | apply below_drew1 | refine below_set ?_ GE276.out) | exact HB.out)))); (case aL => have := LMc10.out; omega); intro v279 w11 ho hb hg hat; rw [← Ny278.out] at ho; have n0_ := Aside0.mk (blk_grown (g := gb276) (o := .cells #[.int .i64 a1_0, .int .i64 a1_1, .int .i64 a1_2, .int .i64 a1_3, .string a1_4, .int .i64 a1_5, .int .i64 a1_6] 29 (0, 0)) (by (with_reducible repeat (first | refine blk_drewN ?_ _ | refine blk_drew ?_ | refine blk_alloc ?_ _)); exact BK276.out) hg (Kd.R_ne HO_0.out BK276.out (by decide))); have n1_ := Aside0.mk (hb); have n2_ := Aside0.mk (Kept.of_grown (S := (fun k_ => P0_ k_)) hg (by repeat (first | (with_reducible first | exact HK.out | apply Kept.alloc | apply Kept.drewN | apply Kept.drew | refine Kept.setCell ?_ (.inr GW276.out) _) | exact HK.out)) (fun k_ e_ => (HO_0.out.1 k_ e_))); have n3_ := Aside0.mk (ho); clear BK276; clear HB; clear HK; clear HO_0; have BK276 := n0_; have HB := n1_; have HK := n2_; have HO280 := n3_; clear n0_ n1_ n2_ n3_; clear ho hb hg hat))
      go_roundg k1
      case measure => have := HK1.out; omega
      case rel => exact ⟨(y278), (wrap64 (x6_1 + 1)), (by first | rfl | (simp; done) | (simp [*]; done)), H', ⟨by have := HK1.out; omega⟩, ⟨by (with_reducible repeat (first | apply Kd.R_alloc | apply Kd.R_drewN | apply Kd.R_drew)); exact HO280.out⟩, ⟨by (with_reducible repeat (first | refine blk_drewN ?_ _ | refine blk_drew ?_ | refine blk_alloc ?_ _)); exact BK276.out⟩, ⟨by repeat (first | (with_reducible first | exact HK.out | apply Kept.alloc | apply Kept.drewN | apply Kept.drew | refine Kept.setCell ?_ (.inr GW276.out) _) | exact HK.out)⟩, ⟨by repeat (first | (with_reducible first | exact HB.out | apply below_alloc | apply pw_below_drewN | apply below_drew1 | refine below_set ?_ GE276.out) | exact HB.out)⟩⟩
     ·rw [if_neg c10] at H
      exact absurd H (by simp)
    ·rw [if_neg c8] at H
     exact absurd H (by simp)
   ·rw [if_neg c7] at H
    have c7b0 : decide (x6_1 < (t277.size : Int)) = false := decide_eq_false c7
    clear c7
    replace H := Option.bind_eq_some_iff.mp H
    obtain ⟨t281, A120, H⟩ := H
    replace H : (barrowref24_line.l1 k1 x0_1 t281 0 a1_0 a1_1 a1_2 a1_3 a1_4 a1_5 a1_6) = some r := H
    have A12 := Aside0.mk A120
    clear A120
    have H' := Aside0.mk H
    clear H
    have hcz13_0 : wr.cell? ⟨gb276, 0, none⟩ = some (.int .i64 a1_0) := (blk_cell BK276.out 0).trans rfl
    have hcz13_1 : wr.cell? ⟨gb276, 1, none⟩ = some (.int .i64 a1_1) := (blk_cell BK276.out 1).trans rfl
    have hcz13_2 : wr.cell? ⟨gb276, 2, none⟩ = some (.int .i64 a1_2) := (blk_cell BK276.out 2).trans rfl
    have hcz13_3 : wr.cell? ⟨gb276, 3, none⟩ = some (.int .i64 a1_3) := (blk_cell BK276.out 3).trans rfl
    have hcz13_4 : wr.cell? ⟨gb276, 4, none⟩ = some (.string a1_4) := (blk_cell BK276.out 4).trans rfl
    have hcz13_5 : wr.cell? ⟨gb276, 5, none⟩ = some (.int .i64 a1_5) := (blk_cell BK276.out 5).trans rfl
    have hcz13_6 : wr.cell? ⟨gb276, 6, none⟩ = some (.int .i64 a1_6) := (blk_cell BK276.out 6).trans rfl
    have hfz13_0 := blk_frozen BK276.out 0
    have hfz13_1 := blk_frozen BK276.out 1
    have hfz13_2 := blk_frozen BK276.out 2
    have hfz13_3 := blk_frozen BK276.out 3
    have hfz13_4 := blk_frozen BK276.out 4
    have hfz13_5 := blk_frozen BK276.out 5
    have hfz13_6 := blk_frozen BK276.out 6
    go_wp2_with (first | ((with_reducible refine gate_callee (f := 44) rfl ?_); refine goesL_ (some 26) rfl rfl Tryd.func44 (by kernel_rfl) rfl #[.int .i64 a1_0] rfl (by (try simp only [List.map_toArray, List.map_cons, List.map_nil]); first | done | rfl | (simp only [List.length_drop, List.length_take]; rfl)) ?_; (with_reducible refine (barrowref24_shape.calls a1_0 t281 _ A12.out).mono ?_); rintro e w14 ⟨rfl, hb⟩; refine ⟨_, rfl, ?_⟩; have n0_ := Aside0.mk (Kd.R_below (by (with_reducible repeat (first | apply Kd.R_alloc | apply Kd.R_drewN | apply Kd.R_drew)); exact HO_0.out) hb); have n1_ := Aside0.mk (blk_below (g := gb276) (o := .cells #[.int .i64 a1_0, .int .i64 a1_1, .int .i64 a1_2, .int .i64 a1_3, .string a1_4, .int .i64 a1_5, .int .i64 a1_6] 29 (0, 0)) (by (with_reducible repeat (first | refine blk_drewN ?_ _ | refine blk_drew ?_ | refine blk_alloc ?_ _)); exact BK276.out) hb); have n2_ := Aside0.mk (Kept.below (S := (fun k_ => P0_ k_)) (by repeat (first | (with_reducible first | exact HK.out | apply Kept.alloc | apply Kept.drewN | apply Kept.drew | refine Kept.setCell ?_ (.inr GW276.out) _) | exact HK.out)) hb); have n3_ := Aside0.mk (below_step (by repeat (first | (with_reducible first | exact HB.out | apply below_alloc | apply pw_below_drewN | apply below_drew1 | refine below_set ?_ GE276.out) | exact HB.out)) hb); clear HO_0; clear BK276; clear HK; clear HB; have HO_0 := n0_; have BK276 := n1_; have HK := n2_; have HB := n3_; clear n0_ n1_ n2_ n3_; (try clear hb); (try clear hb2); (try clear hk); (try clear hi)))
    go_loopg [0, 8] k1 (fun kq v0 v8 w' => ∃ (x0_2 : List Int) (x8_2 : Int), v8 = .int .i64 x8_2 ∧ Aside0 (barrowref24_line.l1 kq x0_2 t281 x8_2 a1_0 a1_1 a1_2 a1_3 a1_4 a1_5 a1_6 = some r) ∧ Aside0 (kq ≤ k1) ∧ Aside0 (Kd.R (Kd.int .u8) 5 w' w0.heap.size (fun k_ => (P0_ k_ ∨ w.heap.size ≤ k_)) v0 x0_2) ∧ Aside0 (w'.heap[gb276]? = some (.cells #[.int .i64 a1_0, .int .i64 a1_1, .int .i64 a1_2, .int .i64 a1_3, .string a1_4, .int .i64 a1_5, .int .i64 a1_6] 29 (0, 0))) ∧ Aside0 (Kept w w' (fun k_ => P0_ k_)) ∧ Aside0 (Below w0.heap.size w0 w'))
    case atStart => exact ⟨(x0_1), (0), (by first | rfl | (simp; done) | (simp [*]; done)), H', ⟨Nat.le_refl _⟩, ⟨by (with_reducible repeat (first | apply Kd.R_alloc | apply Kd.R_drewN | apply Kd.R_drew)); exact HO_0.out⟩, ⟨by (with_reducible repeat (first | refine blk_drewN ?_ _ | refine blk_drew ?_ | refine blk_alloc ?_ _)); exact BK276.out⟩, ⟨by repeat (first | (with_reducible first | exact HK.out | apply Kept.alloc | apply Kept.drewN | apply Kept.drew | refine Kept.setCell ?_ (.inr GW276.out) _) | exact HK.out)⟩, ⟨by repeat (first | (with_reducible first | exact HB.out | apply below_alloc | apply pw_below_drewN | apply below_drew1 | refine below_set ?_ GE276.out) | exact HB.out)⟩⟩
    case round =>
     clear H'
     try clear c1
     try clear p2
     try clear c3
     try clear c4
     try clear c5
     try clear p6
     try clear c7
     try clear c7b0
     try clear c8
     try clear c8b0
     try clear p9
     try clear q9
     try clear hx9
     try clear c10
     try clear hcz13_0
     try clear hcz13_1
     try clear hcz13_2
     try clear hcz13_3
     try clear hcz13_4
     try clear hcz13_5
     try clear hcz13_6
     try clear hcz5_0
     try clear hcz5_1
     try clear hcz5_2
     try clear hcz5_3
     try clear hcz5_4
     try clear hcz5_5
     try clear hcz5_6
     try clear hfz13_0
     try clear hfz13_1
     try clear hfz13_2
     try clear hfz13_3
     try clear hfz13_4
     try clear hfz13_5
     try clear hfz13_6
     try clear hfz5_0
     try clear hfz5_1
     try clear hfz5_2
     try clear hfz5_3
     try clear hfz5_4
     try clear hfz5_5
     try clear hfz5_6
     try clear p2
     try clear p9
     try clear q9
     obtain ⟨x0_2, x8_2, rfl, HA, HK2, HO_0, BK276, HK, HB⟩ := hrel
     cases gk with
     | zero => exact absurd HA.out (by simp [barrowref24_line.l1])
     | succ k2 =>
      have H := HA.out
      clear HA
      simp only [barrowref24_line.l1] at H
      by_cases c15 : x8_2 < (t281.size : Int)
      ·rw [if_pos c15] at H
       have c15b0 : decide (x8_2 < (t281.size : Int)) = true := decide_eq_true c15
       clear c15
       by_cases c16 : x0_2.length < 140737488355328
       ·rw [if_pos c16] at H
        have LMc16 := Aside0.mk c16
        clear c16
        obtain ⟨y282, hy282⟩ : ∃ y_ : List Int, y_ = (x0_2 ++ [32]) := ⟨_, rfl⟩
        replace H : (if 0 ≤ x8_2 then (if (bt t281 x8_2) = 83 then ((barrowref24_sku.f k2 y282 a1_4).bind fun t285 => (barrowref24_line.l1 k2 t285 t281 (wrap64 (x8_2 + 1)) a1_0 a1_1 a1_2 a1_3 a1_4 a1_5 a1_6)) else ((barrowref24_get.f a1_0 a1_1 a1_2 a1_3 a1_4 a1_5 a1_6 (bt t281 x8_2)).bind fun t288 => ((barrowref24_number.f k2 y282 t288).bind fun t289 => (barrowref24_line.l1 k2 t289 t281 (wrap64 (x8_2 + 1)) a1_0 a1_1 a1_2 a1_3 a1_4 a1_5 a1_6)))) else (none)) = some r := by first | (rw [hy282]; with_reducible exact H) | (have H2_ := (Option.bind_some _ _).symm.trans H; rw [hy282]; with_reducible exact H2_) | (have H2_ := (Option.bind_some _ _).symm.trans H; with_reducible exact H2_) | with_reducible exact H | (rw [hy282]; exact H) | exact H
        have Ny282 := Aside0.mk hy282
        clear hy282
        by_cases c17 : 0 ≤ x8_2
        ·rw [if_pos c17] at H
         have c17b0 : decide (0 ≤ x8_2) = true := decide_eq_true c17
         clear c17
         by_cases c19 : (bt t281 x8_2) = 83
         ·rw [if_pos c19] at H
          have c19b0 : ((bt t281 x8_2) == 83) = true := beq_iff_eq.mpr c19
          have c19b1 : ((bt t281 x8_2) != 83) = false := bne_eq_false_iff_eq.mpr c19
          clear c19
          replace H := Option.bind_eq_some_iff.mp H
          obtain ⟨t285, A200, H⟩ := H
          replace H : (barrowref24_line.l1 k2 t285 t281 (wrap64 (x8_2 + 1)) a1_0 a1_1 a1_2 a1_3 a1_4 a1_5 a1_6) = some r := H
          have A20 := Aside0.mk A200
          clear A200
          have H' := Aside0.mk H
          clear H
          go_wp2_with (first | ((with_reducible refine gate_builtin (b := .append) (xs := #[.tmp 33, .tmp 34]) rfl ?_); at_builtin; refine Kd.R_append (Kd.int .u8) (w0 := w0) w0.heap.size rfl (.tmp 33) (.tmp 34) 48 5 (.int .u8 0) 1 rfl Tryd.underlying48 info5 rfl (by decide) (by omega) u0 x0_2 32 [.int .u8 32] (fun k_ => (P0_ k_ ∨ w.heap.size ≤ k_)) (fun _ => False) rfl rfl ?aP (fun _ hk => hk.elim) ?aF ?aO ?aB ?aS ?aL ?_; (case aP => exact rfl); (case aB => exact (by repeat (first | (with_reducible first | exact HB.out | apply below_alloc | apply pw_below_drewN | apply below_drew1 | refine below_set ?_ GE276.out) | exact HB.out))); (case aF => exact (fun k_ hk => (.inr (Nat.le_trans (by first | exact HK.out.1 | exact (show Kept w _ (fun k_ => P0_ k_) from by repeat (first | (with_reducible first | exact HK.out | apply Kept.alloc | apply Kept.drewN | apply Kept.drew | refine Kept.setCell ?_ (.inr GW276.out) _) | exact HK.out)).1) hk)))); (case aO => exact (by (with_reducible repeat (first | apply Kd.R_alloc | apply Kd.R_drewN | apply Kd.R_drew)); exact HO_0.out)); (case aS => exact (below_size (by repeat (first | (with_reducible first | exact HB.out | apply below_alloc | apply pw_below_drewN | apply below_drew1 | refine below_set ?_ GE276.out) | exact HB.out)))); (case aL => have := LMc16.out; omega); intro v283 w21 ho hb hg hat; rw [← Ny282.out] at ho; have n0_ := Aside0.mk (blk_grown (g := gb276) (o := .cells #[.int .i64 a1_0, .int .i64 a1_1, .int .i64 a1_2, .int .i64 a1_3, .string a1_4, .int .i64 a1_5, .int .i64 a1_6] 29 (0, 0)) (by (with_reducible repeat (first | refine blk_drewN ?_ _ | refine blk_drew ?_ | refine blk_alloc ?_ _)); exact BK276.out) hg (Kd.R_ne HO_0.out BK276.out (by decide))); have n1_ := Aside0.mk (hb); have n2_ := Aside0.mk (Kept.of_grown (S := (fun k_ => P0_ k_)) hg (by repeat (first | (with_reducible first | exact HK.out | apply Kept.alloc | apply Kept.drewN | apply Kept.drew | refine Kept.setCell ?_ (.inr GW276.out) _) | exact HK.out)) (fun k_ e_ => (HO_0.out.1 k_ e_))); have n3_ := Aside0.mk (ho); clear BK276; clear HB; clear HK; clear HO_0; have BK276 := n0_; have HB := n1_; have HK := n2_; have HO284 := n3_; clear n0_ n1_ n2_ n3_; clear ho hb hg hat; have p18 : 0 ≤ (x8_2 : Int) := of_decide_eq_true (by first | (with_reducible assumption) | assumption); have q18 : x8_2 < (t281.size : Int) := of_decide_eq_true (by first | (with_reducible assumption) | assumption); have hx18 := bt_at t281 x8_2; replace p18 := eq_true p18; replace q18 := eq_true q18; have hcz22_0 : w21.cell? ⟨gb276, 0, none⟩ = some (.int .i64 a1_0) := (blk_cell BK276.out 0).trans rfl; have hcz22_1 : w21.cell? ⟨gb276, 1, none⟩ = some (.int .i64 a1_1) := (blk_cell BK276.out 1).trans rfl; have hcz22_2 : w21.cell? ⟨gb276, 2, none⟩ = some (.int .i64 a1_2) := (blk_cell BK276.out 2).trans rfl; have hcz22_3 : w21.cell? ⟨gb276, 3, none⟩ = some (.int .i64 a1_3) := (blk_cell BK276.out 3).trans rfl; have hcz22_4 : w21.cell? ⟨gb276, 4, none⟩ = some (.string a1_4) := (blk_cell BK276.out 4).trans rfl; have hcz22_5 : w21.cell? ⟨gb276, 5, none⟩ = some (.int .i64 a1_5) := (blk_cell BK276.out 5).trans rfl; have hcz22_6 : w21.cell? ⟨gb276, 6, none⟩ = some (.int .i64 a1_6) := (blk_cell BK276.out 6).trans rfl; have hfz22_0 := blk_frozen BK276.out 0; have hfz22_1 := blk_frozen BK276.out 1; have hfz22_2 := blk_frozen BK276.out 2; have hfz22_3 := blk_frozen BK276.out 3; have hfz22_4 := blk_frozen BK276.out 4; have hfz22_5 := blk_frozen BK276.out 5; have hfz22_6 := blk_frozen BK276.out 6; obtain ⟨Ao23, co23, eo23⟩ := Kd.R_slice HO284.out; subst eo23) | ((with_reducible refine gate_callee (f := 53) rfl ?_); refine goesL_ (some 43) rfl rfl Tryd.func53 (by kernel_rfl) rfl #[.slice Ao23 y282.length co23, .string a1_4] rfl (by (try simp only [List.map_toArray, List.map_cons, List.map_nil]); first | done | rfl | (simp only [List.length_drop, List.length_take]; rfl)) ?_; (with_reducible refine (barrowref24_sku.calls k2 (fun k_ => some k_ = (.slice Ao23 y282.length co23 : Value).ownBlock) (.slice Ao23 y282.length co23) y282 a1_4 t285 w0 _ ?side1 ?side2 A20.out).mono ?_); (case side1 => repeat (first | (with_reducible first | exact HB.out | apply below_alloc | apply pw_below_drewN | apply below_drew1 | refine below_set ?_ GE276.out) | exact HB.out)); (case side2 => exact Kd.R_tight rfl HO284.out); rintro e w24 ⟨v286, rfl, ho0, hb, hkp⟩; refine ⟨_, rfl, ?_⟩; have n0_ := Aside0.mk (blk_kept (by (with_reducible repeat (first | refine blk_drewN ?_ _ | refine blk_drew ?_ | refine blk_alloc ?_ _)); exact BK276.out) hkp (fun hs_ => (fun e_ => (Kd.R_ne HO284.out BK276.out (by decide)) e_) hs_)); have n1_ := Aside0.mk (Kd.R_mono (ok' := fun k_ => (P0_ k_ ∨ w.heap.size ≤ k_)) ho0 (fun k_ hk_ => Or.elim hk_ (fun hs_ => (HO284.out.1 k_ (hs_).symm)) (fun hn_ => (.inr (Nat.le_trans (by first | exact HK.out.1 | exact (show Kept w _ (fun k_ => P0_ k_) from by repeat (first | (with_reducible first | exact HK.out | apply Kept.alloc | apply Kept.drewN | apply Kept.drew | refine Kept.setCell ?_ (.inr GW276.out) _) | exact HK.out)).1) hn_))))); have n2_ := Aside0.mk (Kept.then_ (S := (fun k_ => P0_ k_)) (by repeat (first | (with_reducible first | exact HK.out | apply Kept.alloc | apply Kept.drewN | apply Kept.drew | refine Kept.setCell ?_ (.inr GW276.out) _) | exact HK.out)) hkp (fun k_ hs_ => (fun e_ => (HO284.out.1 k_ e_.symm)) hs_)); have n3_ := Aside0.mk (hb); clear BK276; clear HK; clear HB; clear HO284; have BK276 := n0_; have HO287 := n1_; have HK := n2_; have HB := n3_; clear n0_ n1_ n2_ n3_; (try clear hb); (try clear hkp); (try clear ho0)))
          go_roundg k2
          case measure => have := HK1.out; have := HK2.out; omega
          case rel => exact ⟨(t285), (wrap64 (x8_2 + 1)), (by first | rfl | (simp; done) | (simp [*]; done)), H', ⟨by have := HK1.out; have := HK2.out; omega⟩, ⟨by (with_reducible repeat (first | apply Kd.R_alloc | apply Kd.R_drewN | apply Kd.R_drew)); exact HO287.out⟩, ⟨by (with_reducible repeat (first | refine blk_drewN ?_ _ | refine blk_drew ?_ | refine blk_alloc ?_ _)); exact BK276.out⟩, ⟨by repeat (first | (with_reducible first | exact HK.out | apply Kept.alloc | apply Kept.drewN | apply Kept.drew | refine Kept.setCell ?_ (.inr GW276.out) _) | exact HK.out)⟩, ⟨by repeat (first | (with_reducible first | exact HB.out | apply below_alloc | apply pw_below_drewN | apply below_drew1 | refine below_set ?_ GE276.out) | exact HB.out)⟩⟩
         ·rw [if_neg c19] at H
          have c19b0 : ((bt t281 x8_2) == 83) = false := beq_eq_false_iff_ne.mpr c19
          have c19b1 : ((bt t281 x8_2) != 83) = true := bne_iff_ne.mpr c19
          replace H := Option.bind_eq_some_iff.mp H
          obtain ⟨t288, A260, H⟩ := H
          replace H : ((barrowref24_number.f k2 y282 t288).bind fun t289 => (barrowref24_line.l1 k2 t289 t281 (wrap64 (x8_2 + 1)) a1_0 a1_1 a1_2 a1_3 a1_4 a1_5 a1_6)) = some r := H
          have A26 := Aside0.mk A260
          clear A260
          replace H := Option.bind_eq_some_iff.mp H
          obtain ⟨t289, A270, H⟩ := H
          replace H : (barrowref24_line.l1 k2 t289 t281 (wrap64 (x8_2 + 1)) a1_0 a1_1 a1_2 a1_3 a1_4 a1_5 a1_6) = some r := H
          have A27 := Aside0.mk A270
          clear A270
          have H' := Aside0.mk H
          clear H
          try go_wp2_with (first | ((with_reducible refine gate_builtin (b := .append) (xs := #[.tmp 33, .tmp 34]) rfl ?_); at_builtin; refine Kd.R_append (Kd.int .u8) (w0 := w0) w0.heap.size rfl (.tmp 33) (.tmp 34) 48 5 (.int .u8 0) 1 rfl Tryd.underlying48 info5 rfl (by decide) (by omega) u0 x0_2 32 [.int .u8 32] (fun k_ => (P0_ k_ ∨ w.heap.size ≤ k_)) (fun _ => False) rfl rfl ?aP (fun _ hk => hk.elim) ?aF ?aO ?aB ?aS ?aL ?_; (case aP => exact rfl); (case aB => exact (by repeat (first | (with_reducible first | exact HB.out | apply below_alloc | apply pw_below_drewN | apply below_drew1 | refine below_set ?_ GE276.out) | exact HB.out))); (case aF => exact (fun k_ hk => (.inr (Nat.le_trans (by first | exact HK.out.1 | exact (show Kept w _ (fun k_ => P0_ k_) from by repeat (first | (with_reducible first | exact HK.out | apply Kept.alloc | apply Kept.drewN | apply Kept.drew | refine Kept.setCell ?_ (.inr GW276.out) _) | exact HK.out)).1) hk)))); (case aO => exact (by (with_reducible repeat (first | apply Kd.R_alloc | apply Kd.R_drewN | apply Kd.R_drew)); exact HO_0.out)); (case aS => exact (below_size (by repeat (first | (with_reducible first | exact HB.out | apply below_alloc | apply pw_below_drewN | apply below_drew1 | refine below_set ?_ GE276.out) | exact HB.out)))); (case aL => have := LMc16.out; omega); intro v283 w28 ho hb hg hat; rw [← Ny282.out] at ho; have n0_ := Aside0.mk (blk_grown (g := gb276) (o := .cells #[.int .i64 a1_0, .int .i64 a1_1, .int .i64 a1_2, .int .i64 a1_3, .string a1_4, .int .i64 a1_5, .int .i64 a1_6] 29 (0, 0)) (by (with_reducible repeat (first | refine blk_drewN ?_ _ | refine blk_drew ?_ | refine blk_alloc ?_ _)); exact BK276.out) hg (Kd.R_ne HO_0.out BK276.out (by decide))); have n1_ := Aside0.mk (hb); have n2_ := Aside0.mk (Kept.of_grown (S := (fun k_ => P0_ k_)) hg (by repeat (first | (with_reducible first | exact HK.out | apply Kept.alloc | apply Kept.drewN | apply Kept.drew | refine Kept.setCell ?_ (.inr GW276.out) _) | exact HK.out)) (fun k_ e_ => (HO_0.out.1 k_ e_))); have n3_ := Aside0.mk (ho); clear BK276; clear HB; clear HK; clear HO_0; have BK276 := n0_; have HB := n1_; have HK := n2_; have HO284 := n3_; clear n0_ n1_ n2_ n3_; clear ho hb hg hat; have p18 : 0 ≤ (x8_2 : Int) := of_decide_eq_true (by first | (with_reducible assumption) | assumption); have q18 : x8_2 < (t281.size : Int) := of_decide_eq_true (by first | (with_reducible assumption) | assumption); have hx18 := bt_at t281 x8_2; replace p18 := eq_true p18; replace q18 := eq_true q18))
          have n0_ := Aside0.mk (Kd.R_drew HO284.out)
          have n1_ := Aside0.mk (blk_drew BK276.out)
          have n2_ := Aside0.mk (Kept.drew HK.out)
          have n3_ := Aside0.mk (below_drew1 HB.out)
          clear HO284
          clear BK276
          clear HK
          clear HB
          have HO284 := n0_
          have BK276 := n1_
          have HK := n2_
          have HB := n3_
          clear n0_ n1_ n2_ n3_
          have p25 : 0 ≤ (x8_2 : Int) := of_decide_eq_true (by first | (with_reducible assumption) | assumption)
          have q25 : x8_2 < (t281.size : Int) := of_decide_eq_true (by first | (with_reducible assumption) | assumption)
          have hx25 := bt_at t281 x8_2
          replace p25 := eq_true p25
          replace q25 := eq_true q25
          refine start_ (n := 8) (S := fun w' => w'.cell? ⟨gb276, 0, none⟩ = some (.int .i64 a1_0) ∧ w'.cell? ⟨gb276, 1, none⟩ = some (.int .i64 a1_1) ∧ w'.cell? ⟨gb276, 2, none⟩ = some (.int .i64 a1_2) ∧ w'.cell? ⟨gb276, 3, none⟩ = some (.int .i64 a1_3) ∧ w'.cell? ⟨gb276, 4, none⟩ = some (.string a1_4) ∧ w'.cell? ⟨gb276, 5, none⟩ = some (.int .i64 a1_5) ∧ w'.cell? ⟨gb276, 6, none⟩ = some (.int .i64 a1_6)) (ds := []) #[false, false, false, false, false, false, false, false] (by kernel_rfl) rfl rfl ⟨(blk_cell BK276.out 0).trans rfl, (blk_cell BK276.out 1).trans rfl, (blk_cell BK276.out 2).trans rfl, (blk_cell BK276.out 3).trans rfl, (blk_cell BK276.out 4).trans rfl, (blk_cell BK276.out 5).trans rfl, (blk_cell BK276.out 6).trans rfl⟩ (fun hHeld => ?_); refine with_tabW barrowref24_line.tab13 barrowref24_line.bits13 (fun HT_ HW_ => ?_)
          generalize w28.drew = w29 at HO284 BK276 HK HB hHeld ⊢
          refine pure_ (i := 0) (N := some 44) (v := ?_) (a' := ?_) #[true, false, false, false, false, false, false, false] rfl rfl (any_of HT_.out (by kernel_rfl)) (fun _ _ _ h => h) (Or.inl ⟨by rfl, ?_⟩) ?_ ?_
          rotate_left
          ·intro w'
           go_simp
           with_reducible rfl
          rotate_left
          ·simp only [Act.put, List.setIfInBounds_toArray, List.set_cons_zero, List.set_cons_succ, i64_w, i32_w]
           rfl
          refine pure_ (i := 2) (N := some 46) (v := ?_) (a' := ?_) #[true, false, true, false, false, false, false, false] rfl rfl (any_of HT_.out (by kernel_rfl)) (fun _ _ _ h => h) (Or.inl ⟨by rfl, ?_⟩) ?_ ?_
          rotate_left
          ·intro w'
           go_simp
           with_reducible rfl
          rotate_left
          ·simp only [Act.put, List.setIfInBounds_toArray, List.set_cons_zero, List.set_cons_succ, i64_w, i32_w]
           rfl
          refine pure_ (i := 3) (N := some 47) (v := ?_) (a' := ?_) #[true, false, true, true, false, false, false, false] rfl rfl (any_of HT_.out (by kernel_rfl)) (fun _ _ _ h => h) (Or.inl ⟨by rfl, ?_⟩) ?_ ?_
          rotate_left
          ·intro w'
           go_simp
           with_reducible rfl
          rotate_left
          ·simp only [Act.put, List.setIfInBounds_toArray, List.set_cons_zero, List.set_cons_succ, i64_w, i32_w]
           rfl
          refine take_ (i := 1) (N := some 45) (v := ?_) (a' := ?_) #[true, true, true, true, false, false, false, false] rfl rfl (take_ofW HT_.out HW_.out (by kernel_rfl)) (fun _ _ _ h => h) (Or.inl ⟨by rfl, ?_⟩) hHeld ?_ ?_
          rotate_left
          ·rintro w' ⟨s0, s1, s2, s3, s4, s5, s6⟩
           go_simp
           with_reducible rfl
          rotate_left
          ·simp only [Act.put, List.setIfInBounds_toArray, List.set_cons_zero, List.set_cons_succ, i64_w, i32_w]
           rfl
          refine take_ (i := 4) (N := some 48) (v := ?_) (a' := ?_) #[true, true, true, true, true, false, false, false] rfl rfl (take_ofW HT_.out HW_.out (by kernel_rfl)) (fun _ _ _ h => h) (Or.inl ⟨by rfl, ?_⟩) hHeld ?_ ?_
          rotate_left
          ·rintro w' ⟨s0, s1, s2, s3, s4, s5, s6⟩
           go_simp
           with_reducible rfl
          rotate_left
          ·simp only [Act.put, List.setIfInBounds_toArray, List.set_cons_zero, List.set_cons_succ, i64_w, i32_w]
           rfl
          refine one_ (i := 5) (N := some 49) #[true, true, true, true, true, true, false, false] rfl rfl (one_of HT_.out (by kernel_rfl)) (by decide) (fun K hK => ?_)
          refine goes_ Tryd.func46 (by kernel_rfl) rfl #[.agg #[.int .i64 a1_0, .int .i64 a1_1, .int .i64 a1_2, .int .i64 a1_3, .string a1_4, .int .i64 a1_5, .int .i64 a1_6], .int .u8 (bt t281 x8_2)] (by rfl) rfl rfl (by (try simp only [List.map_toArray, List.map_cons, List.map_nil]); first | done | rfl | (simp only [List.length_drop, List.length_take]; rfl)) ?_
          with_reducible refine (barrowref24_get.calls a1_0 a1_1 a1_2 a1_3 a1_4 a1_5 a1_6 (bt t281 x8_2) t288 _ A26.out).mono ?_
          rintro e w30 ⟨rfl, hb⟩
          refine ⟨_, rfl, ?_⟩
          have n0_ := Aside0.mk (Kd.R_below (by (with_reducible repeat (first | apply Kd.R_alloc | apply Kd.R_drewN | apply Kd.R_drew)); exact HO284.out) hb)
          have n1_ := Aside0.mk (blk_below (g := gb276) (o := .cells #[.int .i64 a1_0, .int .i64 a1_1, .int .i64 a1_2, .int .i64 a1_3, .string a1_4, .int .i64 a1_5, .int .i64 a1_6] 29 (0, 0)) (by (with_reducible repeat (first | refine blk_drewN ?_ _ | refine blk_drew ?_ | refine blk_alloc ?_ _)); exact BK276.out) hb)
          have n2_ := Aside0.mk (Kept.below (S := (fun k_ => P0_ k_)) (by repeat (first | (with_reducible first | exact HK.out | apply Kept.alloc | apply Kept.drewN | apply Kept.drew | refine Kept.setCell ?_ (.inr GW276.out) _) | exact HK.out)) hb)
          have n3_ := Aside0.mk (below_step (by repeat (first | (with_reducible first | exact HB.out | apply below_alloc | apply pw_below_drewN | apply below_drew1 | refine below_set ?_ GE276.out) | exact HB.out)) hb)
          clear HO284
          clear BK276
          clear HK
          clear HB
          have HO284 := n0_
          have BK276 := n1_
          have HK := n2_
          have HB := n3_
          clear n0_ n1_ n2_ n3_
          (try clear hb)
          (try clear hb2)
          (try clear hk)
          (try clear hi)
          obtain ⟨Ao31, co31, eo31⟩ := Kd.R_slice HO284.out
          (first | subst eo31 | (injection eo31 with f1_ f2_ f3_; have f4_ := f1_.symm; have f5_ := f3_.symm; clear f1_ f2_ f3_; subst f4_; subst f5_))
          refine hK.out _ _ ⟨(blk_cell BK276.out 0).trans rfl, (blk_cell BK276.out 1).trans rfl, (blk_cell BK276.out 2).trans rfl, (blk_cell BK276.out 3).trans rfl, (blk_cell BK276.out 4).trans rfl, (blk_cell BK276.out 5).trans rfl, (blk_cell BK276.out 6).trans rfl⟩ (fun hHeld => ?_)
          clear hK K
          refine norm_ (a' := ?_) ?_ ?_
          rotate_left
          ·show Act.put _ (some 49) _ = _
           simp only [Act.put, List.setIfInBounds_toArray, List.set_cons_zero, List.set_cons_succ, i64_w, i32_w]
           rfl
          refine one_ (i := 6) (N := some 50) #[true, true, true, true, true, true, true, false] rfl rfl (one_of HT_.out (by kernel_rfl)) (by decide) (fun K hK => ?_)
          refine goes_ Tryd.func33 (by kernel_rfl) rfl #[.slice Ao31 y282.length co31, .int .i64 t288] (by rfl) rfl rfl (by (try simp only [List.map_toArray, List.map_cons, List.map_nil]); first | done | rfl | (simp only [List.length_drop, List.length_take]; rfl)) ?_
          with_reducible refine (barrowref24_number.calls k2 (fun k_ => some k_ = (.slice Ao31 y282.length co31 : Value).ownBlock) (.slice Ao31 y282.length co31) y282 t288 t289 w0 _ ?side1 ?side2 A27.out).mono ?_
          (case side1 => repeat (first | (with_reducible first | exact HB.out | apply below_alloc | apply pw_below_drewN | apply below_drew1 | refine below_set ?_ GE276.out) | exact HB.out))
          (case side2 => exact Kd.R_tight rfl HO284.out)
          rintro e w32 ⟨v290, rfl, ho0, hb, hkp⟩
          refine ⟨_, rfl, ?_⟩
          have n0_ := Aside0.mk (blk_kept (by (with_reducible repeat (first | refine blk_drewN ?_ _ | refine blk_drew ?_ | refine blk_alloc ?_ _)); exact BK276.out) hkp (fun hs_ => (fun e_ => (Kd.R_ne HO284.out BK276.out (by decide)) e_) hs_))
          have n1_ := Aside0.mk (Kd.R_mono (ok' := fun k_ => (P0_ k_ ∨ w.heap.size ≤ k_)) ho0 (fun k_ hk_ => Or.elim hk_ (fun hs_ => (HO284.out.1 k_ (hs_).symm)) (fun hn_ => (.inr (Nat.le_trans (by first | exact HK.out.1 | exact (show Kept w _ (fun k_ => P0_ k_) from by repeat (first | (with_reducible first | exact HK.out | apply Kept.alloc | apply Kept.drewN | apply Kept.drew | refine Kept.setCell ?_ (.inr GW276.out) _) | exact HK.out)).1) hn_)))))
          have n2_ := Aside0.mk (Kept.then_ (S := (fun k_ => P0_ k_)) (by repeat (first | (with_reducible first | exact HK.out | apply Kept.alloc | apply Kept.drewN | apply Kept.drew | refine Kept.setCell ?_ (.inr GW276.out) _) | exact HK.out)) hkp (fun k_ hs_ => (fun e_ => (HO284.out.1 k_ e_.symm)) hs_))
          have n3_ := Aside0.mk (hb)
          clear BK276
          clear HK
          clear HB
          clear HO284
          have BK276 := n0_
          have HO291 := n1_
          have HK := n2_
          have HB := n3_
          clear n0_ n1_ n2_ n3_
          (try clear hb)
          (try clear hkp)
          (try clear ho0)
          refine hK.out _ _ ⟨(blk_cell BK276.out 0).trans rfl, (blk_cell BK276.out 1).trans rfl, (blk_cell BK276.out 2).trans rfl, (blk_cell BK276.out 3).trans rfl, (blk_cell BK276.out 4).trans rfl, (blk_cell BK276.out 5).trans rfl, (blk_cell BK276.out 6).trans rfl⟩ (fun hHeld => ?_)
          clear hK K
          refine norm_ (a' := ?_) ?_ ?_
          rotate_left
          ·show Act.put _ (some 50) _ = _
           simp only [Act.put, List.setIfInBounds_toArray, List.set_cons_zero, List.set_cons_succ, i64_w, i32_w]
           rfl
          refine pure_ (i := 7) (N := some 0) (v := ?_) (a' := ?_) #[true, true, true, true, true, true, true, true] rfl rfl (any_of HT_.out (by kernel_rfl)) (fun _ _ _ h => h) (Or.inl ⟨by rfl, ?_⟩) ?_ ?_
          rotate_left
          ·intro w'
           go_simp
           with_reducible rfl
          rotate_left
          ·simp only [Act.put, List.setIfInBounds_toArray, List.set_cons_zero, List.set_cons_succ, i64_w, i32_w]
           rfl
          refine done_ (done_of HT_.out (by kernel_rfl)) ?_
          try go_wp2
          go_roundg k2
          case measure => have := HK1.out; have := HK2.out; omega
          case rel => exact ⟨(t289), (wrap64 (x8_2 + 1)), (by first | rfl | (simp; done) | (simp [*]; done)), H', ⟨by have := HK1.out; have := HK2.out; omega⟩, ⟨by (with_reducible repeat (first | apply Kd.R_alloc | apply Kd.R_drewN | apply Kd.R_drew)); exact HO291.out⟩, ⟨by (with_reducible repeat (first | refine blk_drewN ?_ _ | refine blk_drew ?_ | refine blk_alloc ?_ _)); exact BK276.out⟩, ⟨by repeat (first | (with_reducible first | exact HK.out | apply Kept.alloc | apply Kept.drewN | apply Kept.drew | refine Kept.setCell ?_ (.inr GW276.out) _) | exact HK.out)⟩, ⟨by repeat (first | (with_reducible first | exact HB.out | apply below_alloc | apply pw_below_drewN | apply below_drew1 | refine below_set ?_ GE276.out) | exact HB.out)⟩⟩
        ·rw [if_neg c17] at H
         exact absurd H (by simp)
       ·rw [if_neg c16] at H
        exact absurd H (by simp)
      ·rw [if_neg c15] at H
       have c15b0 : decide (x8_2 < (t281.size : Int)) = false := decide_eq_false c15
       clear c15
       obtain rfl := Option.some.inj H
       go_wp2
       go_ret
       exact ⟨_, by first | rfl | (simp [errW_none, errW_some] <;> rfl) | (simp [*, errW_none, errW_some] <;> rfl), by (with_reducible repeat (first | apply Kd.R_alloc | apply Kd.R_drewN | apply Kd.R_drew)); exact HO_0.out, by repeat (first | (with_reducible first | exact HB.out | apply below_alloc | apply pw_below_drewN | apply below_drew1 | refine below_set ?_ GE276.out) | exact HB.out), by repeat (first | (with_reducible first | exact HK.out | apply Kept.alloc | apply Kept.drewN | apply Kept.drew | refine Kept.setCell ?_ (.inr GW276.out) _) | exact HK.out)⟩

end Go.Proofs.YtlmdhpfggobogaaDoor.G

-- PRINTED by print.py (a twelfth state) out of the translation. Not trusted: Lean checks it.
namespace Go.Proofs.YtlmdhpfggobogaaDoor.G
open Go.RowKit Go.Proofs.YtlmdhpfggobogaaDoorW.PrintWords Go.Proofs.YtlmdhpfggobogaaDoorW.PrintLast Go.Proofs.YtlmdhpfggobogaaDoorW.PrintMore
attribute [local go_sem] max2_int min2_int max_two min_two max_three min_three max_four min_four   -- for this text's walks alone
set_option linter.unusedVariables false
set_option linter.unusedSimpArgs false

/-! ### barrowref24_Plain: function 21 -/
def barrowref24_Plain.l0 : Nat → ByteArray → Int → Int → Int → Int → Int → ByteArray → Int → Int → Int → Int → Int → Int → ByteArray → Int → Int → Option (Int × Int × Int × Int × ByteArray × Int × Int)
 | 0, _, _, _, _, _, _, _, _, _, _, _, _, _, _, _, _ => none
 | k + 1, x4, x5, x232000, x232001, x232002, x232003, x232004, x232005, x232006, x234000, x234001, x234002, x234003, x234004, x234005, x234006 => if x5 < (x4.size : Int) then (if 0 ≤ x5 then (if (bt x4 x5) = 83 then (barrowref24_Plain.l0 k x4 (wrap64 (x5 + 1)) x232000 x232001 x232002 x232003 x232004 x232005 x232006 x234000 x234001 x234002 x234003 x232004 x234005 x234006) else ((barrowref24_get.f x232000 x232001 x232002 x232003 x232004 x232005 x232006 (bt x4 x5)).bind fun t235 => ((barrowref24_with.f x234000 x234001 x234002 x234003 x234004 x234005 x234006 (bt x4 x5) t235).bind fun bt236 => (barrowref24_Plain.l0 k x4 (wrap64 (x5 + 1)) x232000 x232001 x232002 x232003 x232004 x232005 x232006 bt236.1 bt236.2.1 bt236.2.2.1 bt236.2.2.2.1 bt236.2.2.2.2.1 bt236.2.2.2.2.2.1 bt236.2.2.2.2.2.2)))) else (none)) else (some (x234000, x234001, x234002, x234003, x234004, x234005, x234006))
def barrowref24_Plain.f (k : Nat) (a0_0 : Int) (a0_1 : Int) (a0_2 : Int) (a0_3 : Int) (a0_4 : ByteArray) (a0_5 : Int) (a0_6 : Int) : Option (Int × Int × Int × Int × ByteArray × Int × Int) := (barrowref24_shape.f a0_0).bind fun t234 => (barrowref24_Plain.l0 k t234 0 a0_0 a0_1 a0_2 a0_3 a0_4 a0_5 a0_6 a0_0 0 0 0 (⟨#[]⟩ : ByteArray) 0 0)
theorem barrowref24_Plain.mono_l : ∀ k, (∀ y0 y1 y2 y3 y4 y5 y6 y7 y8 y9 y10 y11 y12 y13 y14 y15, LeO (barrowref24_Plain.l0 k y0 y1 y2 y3 y4 y5 y6 y7 y8 y9 y10 y11 y12 y13 y14 y15) (barrowref24_Plain.l0 (k + 1) y0 y1 y2 y3 y4 y5 y6 y7 y8 y9 y10 y11 y12 y13 y14 y15))
 | 0 => fun _ _ _ _ _ _ _ _ _ _ _ _ _ _ _ _ r h => by simp [barrowref24_Plain.l0] at h
 | k + 1 => by
  have ih0 := barrowref24_Plain.mono_l k
  ·intro y0 y1 y2 y3 y4 y5 y6 y7 y8 y9 y10 y11 y12 y13 y14 y15
   unfold barrowref24_Plain.l0
   repeat' first
   | (with_reducible exact ih0 _ _ _ _ _ _ _ _ _ _ _ _ _ _ _ _)
   | (with_reducible exact LeO.refl _)
   | (with_reducible exact LeO.none _)
   | (with_reducible refine LeO.ite ?_ ?_)
   | (with_reducible refine LeO.bind ?_ (fun _ => ?_))
   | exact ih0 _ _ _ _ _ _ _ _ _ _ _ _ _ _ _ _
   | exact LeO.none _
   | refine LeO.ite ?_ ?_
   | refine LeO.bind ?_ (fun _ => ?_)
theorem barrowref24_Plain.mono : ∀ a0 a1 a2 a3 a4 a5 a6 k, LeO (barrowref24_Plain.f k a0 a1 a2 a3 a4 a5 a6) (barrowref24_Plain.f (k + 1) a0 a1 a2 a3 a4 a5 a6) := by
 intro a0 a1 a2 a3 a4 a5 a6 k
 have ih0 := barrowref24_Plain.mono_l k
 unfold barrowref24_Plain.f
 repeat' first
   | (with_reducible exact ih0 _ _ _ _ _ _ _ _ _ _ _ _ _ _ _ _)
   | (with_reducible exact LeO.refl _)
   | (with_reducible exact LeO.none _)
   | (with_reducible refine LeO.ite ?_ ?_)
   | (with_reducible refine LeO.bind ?_ (fun _ => ?_))
   | exact ih0 _ _ _ _ _ _ _ _ _ _ _ _ _ _ _ _
   | exact LeO.none _
   | refine LeO.ite ?_ ?_
   | refine LeO.bind ?_ (fun _ => ?_)
def barrowref24_Plain.T8 : Bool × List (List Nat × List Nat) := (true, [([], []), ([], []), ([], []), ([1, 2], [1, 2]), ([], []), ([], []), ([], []), ([5, 6], [5, 6]), ([4, 7], [4, 7]), ([0, 3, 8, 8], [0, 3, 8]), ([9, 9, 0, 1, 2, 3, 4, 5, 6, 7, 8, 9], [9])])
def barrowref24_Plain.B8 : List Nat := [0, 0, 0, 6, 0, 0, 0, 96, 240, 511, 1023]
theorem barrowref24_Plain.tab8 : rtab .any (opsOf Tryd.f21 8) = barrowref24_Plain.T8 := by kernel_rfl
theorem barrowref24_Plain.bits8 : waitsOk barrowref24_Plain.T8.2 barrowref24_Plain.B8 = true := by kernel_rfl
set_option maxHeartbeats 8000000 in
set_option maxRecDepth 100000 in
theorem barrowref24_Plain.calls (k : Nat) (a0_0 : Int) (a0_1 : Int) (a0_2 : Int) (a0_3 : Int) (a0_4 : ByteArray) (a0_5 : Int) (a0_6 : Int) (r1 : Int) (r2 : Int) (r3 : Int) (r4 : Int) (r5 : ByteArray) (r6 : Int) (r7 : Int) (w : World) (h : barrowref24_Plain.f k a0_0 a0_1 a0_2 a0_3 a0_4 a0_5 a0_6 = some (r1, r2, r3, r4, r5, r6, r7)) :
  Calls Tryd.prog 21 #[.agg #[.int .i64 a0_0, .int .i64 a0_1, .int .i64 a0_2, .int .i64 a0_3, .string a0_4, .int .i64 a0_5, .int .i64 a0_6]] w fun e w' => e = .returned (.agg #[.int .i64 r1, .int .i64 r2, .int .i64 r3, .int .i64 r4, .string r5, .int .i64 r6, .int .i64 r7]) ∧ Below w.heap.size w w' := by
 have hu29 := Tryd.underlying29
 have HB := Aside0.mk (Below.refl w.heap.size w)
 have H : ((barrowref24_shape.f a0_0).bind fun t234 => (barrowref24_Plain.l0 k t234 0 a0_0 a0_1 a0_2 a0_3 a0_4 a0_5 a0_6 a0_0 0 0 0 (⟨#[]⟩ : ByteArray) 0 0)) = some (r1, r2, r3, r4, r5, r6, r7) := h
 clear h
 replace H := Option.bind_eq_some_iff.mp H
 obtain ⟨t234, A20, H⟩ := H
 replace H : (barrowref24_Plain.l0 k t234 0 a0_0 a0_1 a0_2 a0_3 a0_4 a0_5 a0_6 a0_0 0 0 0 (⟨#[]⟩ : ByteArray) 0 0) = some (r1, r2, r3, r4, r5, r6, r7) := H
 have A2 := Aside0.mk A20
 clear A20
 have H' := Aside0.mk H
 clear H
 go_enter Tryd.func21, Tryd.ntmps21
 go_wp2_with (first | ((with_reducible refine gate_dst (N := 1) rfl ?_); refine box_event ?hg (N := 1) ?hd (cs := #[.int .i64 a0_0, .int .i64 a0_1, .int .i64 a0_2, .int .i64 a0_3, .string a0_4, .int .i64 a0_5, .int .i64 a0_6]) (t := 29) ?hr ?_; (case hd => rfl); (case hg => rfl); (case hr => first | (go_simp; done) | (go_simp; rfl)); intro gb231 hg w3 hbox hb; have n0_ := Aside0.mk (below_step (by repeat (first | (with_reducible first | exact HB.out | apply below_alloc | apply pw_below_drewN | apply below_drew1) | exact HB.out)) hb); have n1_ := Aside0.mk (hbox); have n2_ := Aside0.mk ((by rw [hg]; exact (below_size (by repeat (first | (with_reducible first | exact HB.out | apply below_alloc | apply pw_below_drewN | apply below_drew1) | exact HB.out))) : w.heap.size ≤ gb231)); have n3_ := Aside0.mk ((by rw [hg]; exact (below_size (by repeat (first | (with_reducible first | exact HB.out | apply below_alloc | apply pw_below_drewN | apply below_drew1) | exact HB.out))) : w.heap.size ≤ gb231)); clear HB; have HB := n0_; have BK231 := n1_; have GW231 := n2_; have GE231 := n3_; clear n0_ n1_ n2_ n3_; clear hb hbox hg) | ((with_reducible refine gate_dst (N := 2) rfl ?_); refine box_event ?hg (N := 2) ?hd (cs := #[.int .i64 0, .int .i64 0, .int .i64 0, .int .i64 0, .string (⟨#[]⟩ : ByteArray), .int .i64 0, .int .i64 0]) (t := 29) ?hr ?_; (case hd => rfl); (case hg => rfl); (case hr => first | (go_simp; done) | (go_simp; rfl)); intro gb232 hg w4 hbox hb; have n0_ := Aside0.mk (blk_below (g := gb231) (o := .cells #[.int .i64 a0_0, .int .i64 a0_1, .int .i64 a0_2, .int .i64 a0_3, .string a0_4, .int .i64 a0_5, .int .i64 a0_6] 29 (0, 0)) (by (with_reducible repeat (first | refine blk_drewN ?_ _ | refine blk_drew ?_ | refine blk_alloc ?_ _)); exact BK231.out) hb); have n1_ := Aside0.mk (below_step (by repeat (first | (with_reducible first | exact HB.out | apply below_alloc | apply pw_below_drewN | apply below_drew1 | refine below_set ?_ GE231.out) | exact HB.out)) hb); have n2_ := Aside0.mk (hbox); have n3_ := Aside0.mk ((by rw [hg]; exact (below_size (by repeat (first | (with_reducible first | exact HB.out | apply below_alloc | apply pw_below_drewN | apply below_drew1 | refine below_set ?_ GE231.out) | exact HB.out))) : w.heap.size ≤ gb232)); have n4_ := Aside0.mk ((by rw [hg]; exact (below_size (by repeat (first | (with_reducible first | exact HB.out | apply below_alloc | apply pw_below_drewN | apply below_drew1 | refine below_set ?_ GE231.out) | exact HB.out))) : w.heap.size ≤ gb232)); have n5_ := Aside0.mk ((by rw [hg]; exact Nat.ne_of_lt (blk_lt (g := gb231) (o := .cells #[.int .i64 a0_0, .int .i64 a0_1, .int .i64 a0_2, .int .i64 a0_3, .string a0_4, .int .i64 a0_5, .int .i64 a0_6] 29 (0, 0)) (by (with_reducible repeat (first | refine blk_drewN ?_ _ | refine blk_drew ?_ | refine blk_alloc ?_ _)); exact BK231.out)) : gb231 ≠ gb232)); have n6_ := Aside0.mk ((by rw [hg]; exact Nat.ne_of_gt (blk_lt (g := gb231) (o := .cells #[.int .i64 a0_0, .int .i64 a0_1, .int .i64 a0_2, .int .i64 a0_3, .string a0_4, .int .i64 a0_5, .int .i64 a0_6] 29 (0, 0)) (by (with_reducible repeat (first | refine blk_drewN ?_ _ | refine blk_drew ?_ | refine blk_alloc ?_ _)); exact BK231.out)) : gb232 ≠ gb231)); clear BK231; clear HB; have BK231 := n0_; have HB := n1_; have BK232 := n2_; have GW232 := n3_; have GE232 := n4_; have NB231_232 := n5_; have NB232_231 := n6_; clear n0_ n1_ n2_ n3_ n4_ n5_ n6_; clear hb hbox hg; have hnb5 := NB231_232.out; have hnc5 := NB232_231.out; have hcz6_0 : w4.cell? ⟨gb231, 0, none⟩ = some (.int .i64 a0_0) := (blk_cell BK231.out 0).trans rfl; have hcz6_1 : w4.cell? ⟨gb231, 1, none⟩ = some (.int .i64 a0_1) := (blk_cell BK231.out 1).trans rfl; have hcz6_2 : w4.cell? ⟨gb231, 2, none⟩ = some (.int .i64 a0_2) := (blk_cell BK231.out 2).trans rfl; have hcz6_3 : w4.cell? ⟨gb231, 3, none⟩ = some (.int .i64 a0_3) := (blk_cell BK231.out 3).trans rfl; have hcz6_4 : w4.cell? ⟨gb231, 4, none⟩ = some (.string a0_4) := (blk_cell BK231.out 4).trans rfl; have hcz6_5 : w4.cell? ⟨gb231, 5, none⟩ = some (.int .i64 a0_5) := (blk_cell BK231.out 5).trans rfl; have hcz6_6 : w4.cell? ⟨gb231, 6, none⟩ = some (.int .i64 a0_6) := (blk_cell BK231.out 6).trans rfl; have hfz6_0 := blk_frozen BK231.out 0; have hfz6_1 := blk_frozen BK231.out 1; have hfz6_2 := blk_frozen BK231.out 2; have hfz6_3 := blk_frozen BK231.out 3; have hfz6_4 := blk_frozen BK231.out 4; have hfz6_5 := blk_frozen BK231.out 5; have hfz6_6 := blk_frozen BK231.out 6) | ((with_reducible refine gate_dst (N := 3) rfl ?_); refine box_event ?hg (N := 3) ?hd (cs := #[.int .i64 0, .int .i64 0, .int .i64 0, .int .i64 0, .string (⟨#[]⟩ : ByteArray), .int .i64 0, .int .i64 0]) (t := 29) ?hr ?_; (case hd => rfl); (case hg => rfl); (case hr => first | (go_simp; done) | (go_simp; rfl)); intro gb233 hg w7 hbox hb; have n0_ := Aside0.mk (blk_below (g := gb231) (o := .cells #[.int .i64 a0_0, .int .i64 a0_1, .int .i64 a0_2, .int .i64 a0_3, .string a0_4, .int .i64 a0_5, .int .i64 a0_6] 29 (0, 0)) (by (with_reducible repeat (first | refine blk_drewN ?_ _ | refine blk_drew ?_ | refine blk_alloc ?_ _)); exact BK231.out) hb); have n1_ := Aside0.mk (blk_below (g := gb232) (o := .cells #[.int .i64 0, .int .i64 0, .int .i64 0, .int .i64 0, .string (⟨#[]⟩ : ByteArray), .int .i64 0, .int .i64 0] 29 (0, 0)) (by (with_reducible repeat (first | refine blk_drewN ?_ _ | refine blk_drew ?_ | refine blk_alloc ?_ _)); exact BK232.out) hb); have n2_ := Aside0.mk (below_step (by repeat (first | (with_reducible first | exact HB.out | apply below_alloc | apply pw_below_drewN | apply below_drew1 | refine below_set ?_ GE231.out | refine below_set ?_ GE232.out) | exact HB.out)) hb); have n3_ := Aside0.mk (hbox); have n4_ := Aside0.mk ((by rw [hg]; exact (below_size (by repeat (first | (with_reducible first | exact HB.out | apply below_alloc | apply pw_below_drewN | apply below_drew1 | refine below_set ?_ GE231.out | refine below_set ?_ GE232.out) | exact HB.out))) : w.heap.size ≤ gb233)); have n5_ := Aside0.mk ((by rw [hg]; exact (below_size (by repeat (first | (with_reducible first | exact HB.out | apply below_alloc | apply pw_below_drewN | apply below_drew1 | refine below_set ?_ GE231.out | refine below_set ?_ GE232.out) | exact HB.out))) : w.heap.size ≤ gb233)); have n6_ := Aside0.mk ((by rw [hg]; exact Nat.ne_of_lt (blk_lt (g := gb231) (o := .cells #[.int .i64 a0_0, .int .i64 a0_1, .int .i64 a0_2, .int .i64 a0_3, .string a0_4, .int .i64 a0_5, .int .i64 a0_6] 29 (0, 0)) (by (with_reducible repeat (first | refine blk_drewN ?_ _ | refine blk_drew ?_ | refine blk_alloc ?_ _)); exact BK231.out)) : gb231 ≠ gb233)); have n7_ := Aside0.mk ((by rw [hg]; exact Nat.ne_of_gt (blk_lt (g := gb231) (o := .cells #[.int .i64 a0_0, .int .i64 a0_1, .int .i64 a0_2, .int .i64 a0_3, .string a0_4, .int .i64 a0_5, .int .i64 a0_6] 29 (0, 0)) (by (with_reducible repeat (first | refine blk_drewN ?_ _ | refine blk_drew ?_ | refine blk_alloc ?_ _)); exact BK231.out)) : gb233 ≠ gb231)); have n8_ := Aside0.mk ((by rw [hg]; exact Nat.ne_of_lt (blk_lt (g := gb232) (o := .cells #[.int .i64 0, .int .i64 0, .int .i64 0, .int .i64 0, .string (⟨#[]⟩ : ByteArray), .int .i64 0, .int .i64 0] 29 (0, 0)) (by (with_reducible repeat (first | refine blk_drewN ?_ _ | refine blk_drew ?_ | refine blk_alloc ?_ _)); exact BK232.out)) : gb232 ≠ gb233)); have n9_ := Aside0.mk ((by rw [hg]; exact Nat.ne_of_gt (blk_lt (g := gb232) (o := .cells #[.int .i64 0, .int .i64 0, .int .i64 0, .int .i64 0, .string (⟨#[]⟩ : ByteArray), .int .i64 0, .int .i64 0] 29 (0, 0)) (by (with_reducible repeat (first | refine blk_drewN ?_ _ | refine blk_drew ?_ | refine blk_alloc ?_ _)); exact BK232.out)) : gb233 ≠ gb232)); clear BK231; clear BK232; clear HB; have BK231 := n0_; have BK232 := n1_; have HB := n2_; have BK233 := n3_; have GW233 := n4_; have GE233 := n5_; have NB231_233 := n6_; have NB233_231 := n7_; have NB232_233 := n8_; have NB233_232 := n9_; clear n0_ n1_ n2_ n3_ n4_ n5_ n6_ n7_ n8_ n9_; clear hb hbox hg; have hnb8 := NB233_231.out; have hnc8 := NB231_233.out; have hnb9 := NB233_232.out; have hnc9 := NB232_233.out; have hcz10_0 : w7.cell? ⟨gb233, 0, none⟩ = some (.int .i64 0) := (blk_cell BK233.out 0).trans rfl; have hcz10_1 : w7.cell? ⟨gb233, 1, none⟩ = some (.int .i64 0) := (blk_cell BK233.out 1).trans rfl; have hcz10_2 : w7.cell? ⟨gb233, 2, none⟩ = some (.int .i64 0) := (blk_cell BK233.out 2).trans rfl; have hcz10_3 : w7.cell? ⟨gb233, 3, none⟩ = some (.int .i64 0) := (blk_cell BK233.out 3).trans rfl; have hcz10_4 : w7.cell? ⟨gb233, 4, none⟩ = some (.string (⟨#[]⟩ : ByteArray)) := (blk_cell BK233.out 4).trans rfl; have hcz10_5 : w7.cell? ⟨gb233, 5, none⟩ = some (.int .i64 0) := (blk_cell BK233.out 5).trans rfl; have hcz10_6 : w7.cell? ⟨gb233, 6, none⟩ = some (.int .i64 0) := (blk_cell BK233.out 6).trans rfl; have hfz10_0 := blk_frozen BK233.out 0; have hfz10_1 := blk_frozen BK233.out 1; have hfz10_2 := blk_frozen BK233.out 2; have hfz10_3 := blk_frozen BK233.out 3; have hfz10_4 := blk_frozen BK233.out 4; have hfz10_5 := blk_frozen BK233.out 5; have hfz10_6 := blk_frozen BK233.out 6; have hcz11_0 : w7.cell? ⟨gb231, 0, none⟩ = some (.int .i64 a0_0) := (blk_cell BK231.out 0).trans rfl; have hcz11_1 : w7.cell? ⟨gb231, 1, none⟩ = some (.int .i64 a0_1) := (blk_cell BK231.out 1).trans rfl; have hcz11_2 : w7.cell? ⟨gb231, 2, none⟩ = some (.int .i64 a0_2) := (blk_cell BK231.out 2).trans rfl; have hcz11_3 : w7.cell? ⟨gb231, 3, none⟩ = some (.int .i64 a0_3) := (blk_cell BK231.out 3).trans rfl; have hcz11_4 : w7.cell? ⟨gb231, 4, none⟩ = some (.string a0_4) := (blk_cell BK231.out 4).trans rfl; have hcz11_5 : w7.cell? ⟨gb231, 5, none⟩ = some (.int .i64 a0_5) := (blk_cell BK231.out 5).trans rfl; have hcz11_6 : w7.cell? ⟨gb231, 6, none⟩ = some (.int .i64 a0_6) := (blk_cell BK231.out 6).trans rfl; have hfz11_0 := blk_frozen BK231.out 0; have hfz11_1 := blk_frozen BK231.out 1; have hfz11_2 := blk_frozen BK231.out 2; have hfz11_3 := blk_frozen BK231.out 3; have hfz11_4 := blk_frozen BK231.out 4; have hfz11_5 := blk_frozen BK231.out 5; have hfz11_6 := blk_frozen BK231.out 6) | ((with_reducible refine gate_callee (f := 44) rfl ?_); refine goesL_ (some 11) rfl rfl Tryd.func44 (by kernel_rfl) rfl #[.int .i64 a0_0] rfl (by (try simp only [List.map_toArray, List.map_cons, List.map_nil]); first | done | rfl | (simp only [List.length_drop, List.length_take]; rfl)) ?_; (with_reducible refine (barrowref24_shape.calls a0_0 t234 _ A2.out).mono ?_); rintro e w12 ⟨rfl, hb⟩; refine ⟨_, rfl, ?_⟩; have n0_ := Aside0.mk (blk_below (g := gb231) (o := .cells #[.int .i64 a0_0, .int .i64 a0_1, .int .i64 a0_2, .int .i64 a0_3, .string a0_4, .int .i64 a0_5, .int .i64 a0_6] 29 (0, 0)) (by (with_reducible repeat (first | refine blk_drewN ?_ _ | refine blk_drew ?_ | refine blk_alloc ?_ _)); refine blk_far ?_ NB231_233.out _; (with_reducible repeat (first | refine blk_drewN ?_ _ | refine blk_drew ?_ | refine blk_alloc ?_ _)); refine blk_far ?_ NB231_233.out _; (with_reducible repeat (first | refine blk_drewN ?_ _ | refine blk_drew ?_ | refine blk_alloc ?_ _)); refine blk_far ?_ NB231_233.out _; (with_reducible repeat (first | refine blk_drewN ?_ _ | refine blk_drew ?_ | refine blk_alloc ?_ _)); refine blk_far ?_ NB231_233.out _; (with_reducible repeat (first | refine blk_drewN ?_ _ | refine blk_drew ?_ | refine blk_alloc ?_ _)); refine blk_far ?_ NB231_233.out _; (with_reducible repeat (first | refine blk_drewN ?_ _ | refine blk_drew ?_ | refine blk_alloc ?_ _)); refine blk_far ?_ NB231_233.out _; (with_reducible repeat (first | refine blk_drewN ?_ _ | refine blk_drew ?_ | refine blk_alloc ?_ _)); refine blk_far ?_ NB231_233.out _; (with_reducible repeat (first | refine blk_drewN ?_ _ | refine blk_drew ?_ | refine blk_alloc ?_ _)); exact BK231.out) hb); have n1_ := Aside0.mk (blk_below (g := gb232) (o := .cells #[.int .i64 0, .int .i64 0, .int .i64 0, .int .i64 0, .string (⟨#[]⟩ : ByteArray), .int .i64 0, .int .i64 0] 29 (0, 0)) (by (with_reducible repeat (first | refine blk_drewN ?_ _ | refine blk_drew ?_ | refine blk_alloc ?_ _)); refine blk_far ?_ NB232_233.out _; (with_reducible repeat (first | refine blk_drewN ?_ _ | refine blk_drew ?_ | refine blk_alloc ?_ _)); refine blk_far ?_ NB232_233.out _; (with_reducible repeat (first | refine blk_drewN ?_ _ | refine blk_drew ?_ | refine blk_alloc ?_ _)); refine blk_far ?_ NB232_233.out _; (with_reducible repeat (first | refine blk_drewN ?_ _ | refine blk_drew ?_ | refine blk_alloc ?_ _)); refine blk_far ?_ NB232_233.out _; (with_reducible repeat (first | refine blk_drewN ?_ _ | refine blk_drew ?_ | refine blk_alloc ?_ _)); refine blk_far ?_ NB232_233.out _; (with_reducible repeat (first | refine blk_drewN ?_ _ | refine blk_drew ?_ | refine blk_alloc ?_ _)); refine blk_far ?_ NB232_233.out _; (with_reducible repeat (first | refine blk_drewN ?_ _ | refine blk_drew ?_ | refine blk_alloc ?_ _)); refine blk_far ?_ NB232_233.out _; (with_reducible repeat (first | refine blk_drewN ?_ _ | refine blk_drew ?_ | refine blk_alloc ?_ _)); exact BK232.out) hb); have n2_ := Aside0.mk (blk_below (g := gb233) (o := .cells #[.int .i64 a0_0, .int .i64 0, .int .i64 0, .int .i64 0, .string (⟨#[]⟩ : ByteArray), .int .i64 0, .int .i64 0] 29 (0, 0)) (by (with_reducible repeat (first | refine blk_drewN ?_ _ | refine blk_drew ?_ | refine blk_alloc ?_ _)); refine blk_put (cs := #[.int .i64 a0_0, .int .i64 0, .int .i64 0, .int .i64 0, .string (⟨#[]⟩ : ByteArray), .int .i64 0, .int .i64 0]) ?_ 6 _ rfl; (with_reducible repeat (first | refine blk_drewN ?_ _ | refine blk_drew ?_ | refine blk_alloc ?_ _)); refine blk_put (cs := #[.int .i64 a0_0, .int .i64 0, .int .i64 0, .int .i64 0, .string (⟨#[]⟩ : ByteArray), .int .i64 0, .int .i64 0]) ?_ 5 _ rfl; (with_reducible repeat (first | refine blk_drewN ?_ _ | refine blk_drew ?_ | refine blk_alloc ?_ _)); refine blk_put (cs := #[.int .i64 a0_0, .int .i64 0, .int .i64 0, .int .i64 0, .string (⟨#[]⟩ : ByteArray), .int .i64 0, .int .i64 0]) ?_ 4 _ rfl; (with_reducible repeat (first | refine blk_drewN ?_ _ | refine blk_drew ?_ | refine blk_alloc ?_ _)); refine blk_put (cs := #[.int .i64 a0_0, .int .i64 0, .int .i64 0, .int .i64 0, .string (⟨#[]⟩ : ByteArray), .int .i64 0, .int .i64 0]) ?_ 3 _ rfl; (with_reducible repeat (first | refine blk_drewN ?_ _ | refine blk_drew ?_ | refine blk_alloc ?_ _)); refine blk_put (cs := #[.int .i64 a0_0, .int .i64 0, .int .i64 0, .int .i64 0, .string (⟨#[]⟩ : ByteArray), .int .i64 0, .int .i64 0]) ?_ 2 _ rfl; (with_reducible repeat (first | refine blk_drewN ?_ _ | refine blk_drew ?_ | refine blk_alloc ?_ _)); refine blk_put (cs := #[.int .i64 a0_0, .int .i64 0, .int .i64 0, .int .i64 0, .string (⟨#[]⟩ : ByteArray), .int .i64 0, .int .i64 0]) ?_ 1 _ rfl; (with_reducible repeat (first | refine blk_drewN ?_ _ | refine blk_drew ?_ | refine blk_alloc ?_ _)); refine blk_put (cs := #[.int .i64 0, .int .i64 0, .int .i64 0, .int .i64 0, .string (⟨#[]⟩ : ByteArray), .int .i64 0, .int .i64 0]) ?_ 0 _ rfl; (with_reducible repeat (first | refine blk_drewN ?_ _ | refine blk_drew ?_ | refine blk_alloc ?_ _)); exact BK233.out) hb); have n3_ := Aside0.mk (below_step (by repeat (first | (with_reducible first | exact HB.out | apply below_alloc | apply pw_below_drewN | apply below_drew1 | refine below_set ?_ GE231.out | refine below_set ?_ GE232.out | refine below_set ?_ GE233.out) | exact HB.out)) hb); clear BK231; clear BK232; clear BK233; clear HB; have BK231 := n0_; have BK232 := n1_; have BK233 := n2_; have HB := n3_; clear n0_ n1_ n2_ n3_; (try clear hb); (try clear hb2); (try clear hk); (try clear hi)))
 go_loopg [5] k (fun kq v5 w' => ∃ (x5_1 : Int) (x234000_1 : Int) (x234001_1 : Int) (x234002_1 : Int) (x234003_1 : Int) (x234004_1 : ByteArray) (x234005_1 : Int) (x234006_1 : Int), v5 = .int .i64 x5_1 ∧ Aside0 (barrowref24_Plain.l0 kq t234 x5_1 a0_0 a0_1 a0_2 a0_3 a0_4 a0_5 a0_6 x234000_1 x234001_1 x234002_1 x234003_1 x234004_1 x234005_1 x234006_1 = some (r1, r2, r3, r4, r5, r6, r7)) ∧ Aside0 (kq ≤ k) ∧ Aside0 (w'.heap[gb231]? = some (.cells #[.int .i64 a0_0, .int .i64 a0_1, .int .i64 a0_2, .int .i64 a0_3, .string a0_4, .int .i64 a0_5, .int .i64 a0_6] 29 (0, 0))) ∧ Aside0 (w'.heap[gb232]? = some (.cells #[.int .i64 0, .int .i64 0, .int .i64 0, .int .i64 0, .string (⟨#[]⟩ : ByteArray), .int .i64 0, .int .i64 0] 29 (0, 0))) ∧ Aside0 (w'.heap[gb233]? = some (.cells #[.int .i64 x234000_1, .int .i64 x234001_1, .int .i64 x234002_1, .int .i64 x234003_1, .string x234004_1, .int .i64 x234005_1, .int .i64 x234006_1] 29 (0, 0))) ∧ Aside0 (Below w.heap.size w w'))
 case atStart => exact ⟨(0), (a0_0), (0), (0), (0), ((⟨#[]⟩ : ByteArray)), (0), (0), (by first | rfl | (simp; done) | (simp [*]; done)), H', ⟨Nat.le_refl _⟩, ⟨by (with_reducible repeat (first | refine blk_drewN ?_ _ | refine blk_drew ?_ | refine blk_alloc ?_ _)); exact BK231.out⟩, ⟨by (with_reducible repeat (first | refine blk_drewN ?_ _ | refine blk_drew ?_ | refine blk_alloc ?_ _)); exact BK232.out⟩, ⟨by (with_reducible repeat (first | refine blk_drewN ?_ _ | refine blk_drew ?_ | refine blk_alloc ?_ _)); exact BK233.out⟩, ⟨by repeat (first | (with_reducible first | exact HB.out | apply below_alloc | apply pw_below_drewN | apply below_drew1 | refine below_set ?_ GE231.out | refine below_set ?_ GE232.out | refine below_set ?_ GE233.out) | exact HB.out)⟩⟩
 case round =>
  clear H'
  try clear c2
  try clear p2
  try clear c4
  try clear c5
  try clear c8
  try clear c9
  try clear hcz10_0
  try clear hcz10_1
  try clear hcz10_2
  try clear hcz10_3
  try clear hcz10_4
  try clear hcz10_5
  try clear hcz10_6
  try clear hcz11_0
  try clear hcz11_1
  try clear hcz11_2
  try clear hcz11_3
  try clear hcz11_4
  try clear hcz11_5
  try clear hcz11_6
  try clear hcz6_0
  try clear hcz6_1
  try clear hcz6_2
  try clear hcz6_3
  try clear hcz6_4
  try clear hcz6_5
  try clear hcz6_6
  try clear hfz10_0
  try clear hfz10_1
  try clear hfz10_2
  try clear hfz10_3
  try clear hfz10_4
  try clear hfz10_5
  try clear hfz10_6
  try clear hfz11_0
  try clear hfz11_1
  try clear hfz11_2
  try clear hfz11_3
  try clear hfz11_4
  try clear hfz11_5
  try clear hfz11_6
  try clear hfz6_0
  try clear hfz6_1
  try clear hfz6_2
  try clear hfz6_3
  try clear hfz6_4
  try clear hfz6_5
  try clear hfz6_6
  obtain ⟨x5_1, x234000_1, x234001_1, x234002_1, x234003_1, x234004_1, x234005_1, x234006_1, rfl, HA, HK1, BK231, BK232, BK233, HB⟩ := hrel
  cases gk with
  | zero => exact absurd HA.out (by simp [barrowref24_Plain.l0])
  | succ k1 =>
   have H := HA.out
   clear HA
   simp only [barrowref24_Plain.l0] at H
   by_cases c13 : x5_1 < (t234.size : Int)
   ·rw [if_pos c13] at H
    have c13b0 : decide (x5_1 < (t234.size : Int)) = true := decide_eq_true c13
    clear c13
    by_cases c14 : 0 ≤ x5_1
    ·rw [if_pos c14] at H
     have c14b0 : decide (0 ≤ x5_1) = true := decide_eq_true c14
     clear c14
     by_cases c16 : (bt t234 x5_1) = 83
     ·rw [if_pos c16] at H
      have c16b0 : ((bt t234 x5_1) == 83) = true := beq_iff_eq.mpr c16
      have c16b1 : ((bt t234 x5_1) != 83) = false := bne_eq_false_iff_eq.mpr c16
      clear c16
      have H' := Aside0.mk H
      clear H
      have p15 : 0 ≤ (x5_1 : Int) := of_decide_eq_true (by first | (with_reducible assumption) | assumption)
      have q15 : x5_1 < (t234.size : Int) := of_decide_eq_true (by first | (with_reducible assumption) | assumption)
      have hx15 := bt_at t234 x5_1
      replace p15 := eq_true p15
      replace q15 := eq_true q15
      have hnb17 := NB231_232.out
      have hnc17 := NB232_231.out
      have hnb18 := NB231_233.out
      have hnc18 := NB233_231.out
      have hcz19_0 : wr.cell? ⟨gb231, 0, none⟩ = some (.int .i64 a0_0) := (blk_cell BK231.out 0).trans rfl
      have hcz19_1 : wr.cell? ⟨gb231, 1, none⟩ = some (.int .i64 a0_1) := (blk_cell BK231.out 1).trans rfl
      have hcz19_2 : wr.cell? ⟨gb231, 2, none⟩ = some (.int .i64 a0_2) := (blk_cell BK231.out 2).trans rfl
      have hcz19_3 : wr.cell? ⟨gb231, 3, none⟩ = some (.int .i64 a0_3) := (blk_cell BK231.out 3).trans rfl
      have hcz19_4 : wr.cell? ⟨gb231, 4, none⟩ = some (.string a0_4) := (blk_cell BK231.out 4).trans rfl
      have hcz19_5 : wr.cell? ⟨gb231, 5, none⟩ = some (.int .i64 a0_5) := (blk_cell BK231.out 5).trans rfl
      have hcz19_6 : wr.cell? ⟨gb231, 6, none⟩ = some (.int .i64 a0_6) := (blk_cell BK231.out 6).trans rfl
      have hfz19_0 := blk_frozen BK231.out 0
      have hfz19_1 := blk_frozen BK231.out 1
      have hfz19_2 := blk_frozen BK231.out 2
      have hfz19_3 := blk_frozen BK231.out 3
      have hfz19_4 := blk_frozen BK231.out 4
      have hfz19_5 := blk_frozen BK231.out 5
      have hfz19_6 := blk_frozen BK231.out 6
      have hnb20 := NB233_232.out
      have hnc20 := NB232_233.out
      have hcz21_0 : wr.cell? ⟨gb233, 0, none⟩ = some (.int .i64 x234000_1) := (blk_cell BK233.out 0).trans rfl
      have hcz21_1 : wr.cell? ⟨gb233, 1, none⟩ = some (.int .i64 x234001_1) := (blk_cell BK233.out 1).trans rfl
      have hcz21_2 : wr.cell? ⟨gb233, 2, none⟩ = some (.int .i64 x234002_1) := (blk_cell BK233.out 2).trans rfl
      have hcz21_3 : wr.cell? ⟨gb233, 3, none⟩ = some (.int .i64 x234003_1) := (blk_cell BK233.out 3).trans rfl
      have hcz21_4 : wr.cell? ⟨gb233, 4, none⟩ = some (.string x234004_1) := (blk_cell BK233.out 4).trans rfl
      have hcz21_5 : wr.cell? ⟨gb233, 5, none⟩ = some (.int .i64 x234005_1) := (blk_cell BK233.out 5).trans rfl
      have hcz21_6 : wr.cell? ⟨gb233, 6, none⟩ = some (.int .i64 x234006_1) := (blk_cell BK233.out 6).trans rfl
      have hfz21_0 := blk_frozen BK233.out 0
      have hfz21_1 := blk_frozen BK233.out 1
      have hfz21_2 := blk_frozen BK233.out 2
      have hfz21_3 := blk_frozen BK233.out 3
      have hfz21_4 := blk_frozen BK233.out 4
      have hfz21_5 := blk_frozen BK233.out 5
      have hfz21_6 := blk_frozen BK233.out 6
      go_wp2
      go_roundg k1
      case measure => have := HK1.out; omega
      case rel => exact ⟨(wrap64 (x5_1 + 1)), (x234000_1), (x234001_1), (x234002_1), (x234003_1), (a0_4), (x234005_1), (x234006_1), (by first | rfl | (simp; done) | (simp [*]; done)), H', ⟨by have := HK1.out; omega⟩, ⟨by (with_reducible repeat (first | refine blk_drewN ?_ _ | refine blk_drew ?_ | refine blk_alloc ?_ _)); refine blk_far ?_ NB231_233.out _; (with_reducible repeat (first | refine blk_drewN ?_ _ | refine blk_drew ?_ | refine blk_alloc ?_ _)); exact BK231.out⟩, ⟨by (with_reducible repeat (first | refine blk_drewN ?_ _ | refine blk_drew ?_ | refine blk_alloc ?_ _)); refine blk_far ?_ NB232_233.out _; (with_reducible repeat (first | refine blk_drewN ?_ _ | refine blk_drew ?_ | refine blk_alloc ?_ _)); exact BK232.out⟩, ⟨by (with_reducible repeat (first | refine blk_drewN ?_ _ | refine blk_drew ?_ | refine blk_alloc ?_ _)); refine blk_put (cs := #[.int .i64 x234000_1, .int .i64 x234001_1, .int .i64 x234002_1, .int .i64 x234003_1, .string x234004_1, .int .i64 x234005_1, .int .i64 x234006_1]) ?_ 4 _ rfl; (with_reducible repeat (first | refine blk_drewN ?_ _ | refine blk_drew ?_ | refine blk_alloc ?_ _)); exact BK233.out⟩, ⟨by repeat (first | (with_reducible first | exact HB.out | apply below_alloc | apply pw_below_drewN | apply below_drew1 | refine below_set ?_ GE231.out | refine below_set ?_ GE232.out | refine below_set ?_ GE233.out) | exact HB.out)⟩⟩
     ·rw [if_neg c16] at H
      have c16b0 : ((bt t234 x5_1) == 83) = false := beq_eq_false_iff_ne.mpr c16
      have c16b1 : ((bt t234 x5_1) != 83) = true := bne_iff_ne.mpr c16
      replace H := Option.bind_eq_some_iff.mp H
      obtain ⟨t235, A240, H⟩ := H
      replace H : ((barrowref24_with.f x234000_1 x234001_1 x234002_1 x234003_1 x234004_1 x234005_1 x234006_1 (bt t234 x5_1) t235).bind fun bt236 => (barrowref24_Plain.l0 k1 t234 (wrap64 (x5_1 + 1)) a0_0 a0_1 a0_2 a0_3 a0_4 a0_5 a0_6 bt236.1 bt236.2.1 bt236.2.2.1 bt236.2.2.2.1 bt236.2.2.2.2.1 bt236.2.2.2.2.2.1 bt236.2.2.2.2.2.2)) = some (r1, r2, r3, r4, r5, r6, r7) := H
      have A24 := Aside0.mk A240
      clear A240
      replace H := Option.bind_eq_some_iff.mp H
      obtain ⟨⟨t236, t237, t238, t239, t240, t241, t242⟩, A250, H⟩ := H
      replace H : (barrowref24_Plain.l0 k1 t234 (wrap64 (x5_1 + 1)) a0_0 a0_1 a0_2 a0_3 a0_4 a0_5 a0_6 t236 t237 t238 t239 t240 t241 t242) = some (r1, r2, r3, r4, r5, r6, r7) := H
      have A25 := Aside0.mk A250
      clear A250
      have H' := Aside0.mk H
      clear H
      have p15 : 0 ≤ (x5_1 : Int) := of_decide_eq_true (by first | (with_reducible assumption) | assumption)
      have q15 : x5_1 < (t234.size : Int) := of_decide_eq_true (by first | (with_reducible assumption) | assumption)
      have hx15 := bt_at t234 x5_1
      replace p15 := eq_true p15
      replace q15 := eq_true q15
      try go_wp2
      have n0_ := Aside0.mk (blk_drew BK231.out)
      have n1_ := Aside0.mk (blk_drew BK232.out)
      have n2_ := Aside0.mk (blk_drew BK233.out)
      have n3_ := Aside0.mk (below_drew1 HB.out)
      clear BK231
      clear BK232
      clear BK233
      clear HB
      have BK231 := n0_
      have BK232 := n1_
      have BK233 := n2_
      have HB := n3_
      clear n0_ n1_ n2_ n3_
      have p22 : 0 ≤ (x5_1 : Int) := of_decide_eq_true (by first | (with_reducible assumption) | assumption)
      have q22 : x5_1 < (t234.size : Int) := of_decide_eq_true (by first | (with_reducible assumption) | assumption)
      have hx22 := bt_at t234 x5_1
      replace p22 := eq_true p22
      replace q22 := eq_true q22
      have p23 : 0 ≤ (x5_1 : Int) := of_decide_eq_true (by first | (with_reducible assumption) | assumption)
      have q23 : x5_1 < (t234.size : Int) := of_decide_eq_true (by first | (with_reducible assumption) | assumption)
      have hx23 := bt_at t234 x5_1
      replace p23 := eq_true p23
      replace q23 := eq_true q23
      refine start_ (n := 11) (S := fun w' => w'.cell? ⟨gb233, 0, none⟩ = some (.int .i64 x234000_1) ∧ w'.cell? ⟨gb233, 1, none⟩ = some (.int .i64 x234001_1) ∧ w'.cell? ⟨gb233, 2, none⟩ = some (.int .i64 x234002_1) ∧ w'.cell? ⟨gb233, 3, none⟩ = some (.int .i64 x234003_1) ∧ w'.cell? ⟨gb233, 4, none⟩ = some (.string x234004_1) ∧ w'.cell? ⟨gb233, 5, none⟩ = some (.int .i64 x234005_1) ∧ w'.cell? ⟨gb233, 6, none⟩ = some (.int .i64 x234006_1) ∧ w'.cell? ⟨gb231, 0, none⟩ = some (.int .i64 a0_0) ∧ w'.cell? ⟨gb231, 1, none⟩ = some (.int .i64 a0_1) ∧ w'.cell? ⟨gb231, 2, none⟩ = some (.int .i64 a0_2) ∧ w'.cell? ⟨gb231, 3, none⟩ = some (.int .i64 a0_3) ∧ w'.cell? ⟨gb231, 4, none⟩ = some (.string a0_4) ∧ w'.cell? ⟨gb231, 5, none⟩ = some (.int .i64 a0_5) ∧ w'.cell? ⟨gb231, 6, none⟩ = some (.int .i64 a0_6)) (ds := [10]) #[false, false, false, false, false, false, false, false, false, false, false] (by kernel_rfl) rfl rfl ⟨(blk_cell BK233.out 0).trans rfl, (blk_cell BK233.out 1).trans rfl, (blk_cell BK233.out 2).trans rfl, (blk_cell BK233.out 3).trans rfl, (blk_cell BK233.out 4).trans rfl, (blk_cell BK233.out 5).trans rfl, (blk_cell BK233.out 6).trans rfl, (blk_cell BK231.out 0).trans rfl, (blk_cell BK231.out 1).trans rfl, (blk_cell BK231.out 2).trans rfl, (blk_cell BK231.out 3).trans rfl, (blk_cell BK231.out 4).trans rfl, (blk_cell BK231.out 5).trans rfl, (blk_cell BK231.out 6).trans rfl⟩ (fun hHeld => ?_); refine with_tabW barrowref24_Plain.tab8 barrowref24_Plain.bits8 (fun HT_ HW_ => ?_)
      generalize wr.drew = w26 at BK231 BK232 BK233 HB hHeld ⊢
      refine pure_ (i := 1) (N := some 26) (v := ?_) (a' := ?_) #[false, true, false, false, false, false, false, false, false, false, false] rfl rfl (any_of HT_.out (by kernel_rfl)) (fun _ _ _ h => h) (Or.inl ⟨by rfl, ?_⟩) ?_ ?_
      rotate_left
      ·intro w'
       go_simp
       with_reducible rfl
      rotate_left
      ·simp only [Act.put, List.setIfInBounds_toArray, List.set_cons_zero, List.set_cons_succ, i64_w, i32_w]
       rfl
      refine pure_ (i := 2) (N := some 27) (v := ?_) (a' := ?_) #[false, true, true, false, false, false, false, false, false, false, false] rfl rfl (any_of HT_.out (by kernel_rfl)) (fun _ _ _ h => h) (Or.inl ⟨by rfl, ?_⟩) ?_ ?_
      rotate_left
      ·intro w'
       go_simp
       with_reducible rfl
      rotate_left
      ·simp only [Act.put, List.setIfInBounds_toArray, List.set_cons_zero, List.set_cons_succ, i64_w, i32_w]
       rfl
      refine pure_ (i := 5) (N := some 30) (v := ?_) (a' := ?_) #[false, true, true, false, false, true, false, false, false, false, false] rfl rfl (any_of HT_.out (by kernel_rfl)) (fun _ _ _ h => h) (Or.inl ⟨by rfl, ?_⟩) ?_ ?_
      rotate_left
      ·intro w'
       go_simp
       with_reducible rfl
      rotate_left
      ·simp only [Act.put, List.setIfInBounds_toArray, List.set_cons_zero, List.set_cons_succ, i64_w, i32_w]
       rfl
      refine pure_ (i := 6) (N := some 31) (v := ?_) (a' := ?_) #[false, true, true, false, false, true, true, false, false, false, false] rfl rfl (any_of HT_.out (by kernel_rfl)) (fun _ _ _ h => h) (Or.inl ⟨by rfl, ?_⟩) ?_ ?_
      rotate_left
      ·intro w'
       go_simp
       with_reducible rfl
      rotate_left
      ·simp only [Act.put, List.setIfInBounds_toArray, List.set_cons_zero, List.set_cons_succ, i64_w, i32_w]
       rfl
      refine take_ (i := 0) (N := some 25) (v := ?_) (a' := ?_) #[true, true, true, false, false, true, true, false, false, false, false] rfl rfl (take_ofW HT_.out HW_.out (by kernel_rfl)) (fun _ _ _ h => h) (Or.inl ⟨by rfl, ?_⟩) hHeld ?_ ?_
      rotate_left
      ·rintro w' ⟨s0, s1, s2, s3, s4, s5, s6, s7, s8, s9, s10, s11, s12, s13⟩
       go_simp
       with_reducible rfl
      rotate_left
      ·simp only [Act.put, List.setIfInBounds_toArray, List.set_cons_zero, List.set_cons_succ, i64_w, i32_w]
       rfl
      refine take_ (i := 3) (N := some 28) (v := ?_) (a' := ?_) #[true, true, true, true, false, true, true, false, false, false, false] rfl rfl (take_ofW HT_.out HW_.out (by kernel_rfl)) (fun _ _ _ h => h) (Or.inl ⟨by rfl, ?_⟩) hHeld ?_ ?_
      rotate_left
      ·rintro w' ⟨s0, s1, s2, s3, s4, s5, s6, s7, s8, s9, s10, s11, s12, s13⟩
       go_simp
       with_reducible rfl
      rotate_left
      ·simp only [Act.put, List.setIfInBounds_toArray, List.set_cons_zero, List.set_cons_succ, i64_w, i32_w]
       rfl
      refine take_ (i := 4) (N := some 29) (v := ?_) (a' := ?_) #[true, true, true, true, true, true, true, false, false, false, false] rfl rfl (take_ofW HT_.out HW_.out (by kernel_rfl)) (fun _ _ _ h => h) (Or.inl ⟨by rfl, ?_⟩) hHeld ?_ ?_
      rotate_left
      ·rintro w' ⟨s0, s1, s2, s3, s4, s5, s6, s7, s8, s9, s10, s11, s12, s13⟩
       go_simp
       with_reducible rfl
      rotate_left
      ·simp only [Act.put, List.setIfInBounds_toArray, List.set_cons_zero, List.set_cons_succ, i64_w, i32_w]
       rfl
      refine take_ (i := 7) (N := some 32) (v := ?_) (a' := ?_) #[true, true, true, true, true, true, true, true, false, false, false] rfl rfl (take_ofW HT_.out HW_.out (by kernel_rfl)) (fun _ _ _ h => h) (Or.inl ⟨by rfl, ?_⟩) hHeld ?_ ?_
      rotate_left
      ·rintro w' ⟨s0, s1, s2, s3, s4, s5, s6, s7, s8, s9, s10, s11, s12, s13⟩
       go_simp
       with_reducible rfl
      rotate_left
      ·simp only [Act.put, List.setIfInBounds_toArray, List.set_cons_zero, List.set_cons_succ, i64_w, i32_w]
       rfl
      refine one_ (i := 8) (N := some 33) #[true, true, true, true, true, true, true, true, true, false, false] rfl rfl (one_of HT_.out (by kernel_rfl)) (by decide) (fun K hK => ?_)
      refine goes_ Tryd.func46 (by kernel_rfl) rfl #[.agg #[.int .i64 a0_0, .int .i64 a0_1, .int .i64 a0_2, .int .i64 a0_3, .string a0_4, .int .i64 a0_5, .int .i64 a0_6], .int .u8 (bt t234 x5_1)] (by rfl) rfl rfl (by (try simp only [List.map_toArray, List.map_cons, List.map_nil]); first | done | rfl | (simp only [List.length_drop, List.length_take]; rfl)) ?_
      with_reducible refine (barrowref24_get.calls a0_0 a0_1 a0_2 a0_3 a0_4 a0_5 a0_6 (bt t234 x5_1) t235 _ A24.out).mono ?_
      rintro e w27 ⟨rfl, hb⟩
      refine ⟨_, rfl, ?_⟩
      have n0_ := Aside0.mk (blk_below (g := gb231) (o := .cells #[.int .i64 a0_0, .int .i64 a0_1, .int .i64 a0_2, .int .i64 a0_3, .string a0_4, .int .i64 a0_5, .int .i64 a0_6] 29 (0, 0)) (by (with_reducible repeat (first | refine blk_drewN ?_ _ | refine blk_drew ?_ | refine blk_alloc ?_ _)); exact BK231.out) hb)
      have n1_ := Aside0.mk (blk_below (g := gb232) (o := .cells #[.int .i64 0, .int .i64 0, .int .i64 0, .int .i64 0, .string (⟨#[]⟩ : ByteArray), .int .i64 0, .int .i64 0] 29 (0, 0)) (by (with_reducible repeat (first | refine blk_drewN ?_ _ | refine blk_drew ?_ | refine blk_alloc ?_ _)); exact BK232.out) hb)
      have n2_ := Aside0.mk (blk_below (g := gb233) (o := .cells #[.int .i64 x234000_1, .int .i64 x234001_1, .int .i64 x234002_1, .int .i64 x234003_1, .string x234004_1, .int .i64 x234005_1, .int .i64 x234006_1] 29 (0, 0)) (by (with_reducible repeat (first | refine blk_drewN ?_ _ | refine blk_drew ?_ | refine blk_alloc ?_ _)); exact BK233.out) hb)
      have n3_ := Aside0.mk (below_step (by repeat (first | (with_reducible first | exact HB.out | apply below_alloc | apply pw_below_drewN | apply below_drew1 | refine below_set ?_ GE231.out | refine below_set ?_ GE232.out | refine below_set ?_ GE233.out) | exact HB.out)) hb)
      clear BK231
      clear BK232
      clear BK233
      clear HB
      have BK231 := n0_
      have BK232 := n1_
      have BK233 := n2_
      have HB := n3_
      clear n0_ n1_ n2_ n3_
      (try clear hb)
      (try clear hb2)
      (try clear hk)
      (try clear hi)
      refine hK.out _ _ ⟨(blk_cell BK233.out 0).trans rfl, (blk_cell BK233.out 1).trans rfl, (blk_cell BK233.out 2).trans rfl, (blk_cell BK233.out 3).trans rfl, (blk_cell BK233.out 4).trans rfl, (blk_cell BK233.out 5).trans rfl, (blk_cell BK233.out 6).trans rfl, (blk_cell BK231.out 0).trans rfl, (blk_cell BK231.out 1).trans rfl, (blk_cell BK231.out 2).trans rfl, (blk_cell BK231.out 3).trans rfl, (blk_cell BK231.out 4).trans rfl, (blk_cell BK231.out 5).trans rfl, (blk_cell BK231.out 6).trans rfl⟩ (fun hHeld => ?_)
      clear hK K
      refine norm_ (a' := ?_) ?_ ?_
      rotate_left
      ·show Act.put _ (some 33) _ = _
       simp only [Act.put, List.setIfInBounds_toArray, List.set_cons_zero, List.set_cons_succ, i64_w, i32_w]
       rfl
      refine one_ (i := 9) (N := some 34) #[true, true, true, true, true, true, true, true, true, true, false] rfl rfl (one_of HT_.out (by kernel_rfl)) (by decide) (fun K hK => ?_)
      refine goes_ Tryd.func45 (by kernel_rfl) rfl #[.agg #[.int .i64 x234000_1, .int .i64 x234001_1, .int .i64 x234002_1, .int .i64 x234003_1, .string x234004_1, .int .i64 x234005_1, .int .i64 x234006_1], .int .u8 (bt t234 x5_1), .int .i64 t235] (by rfl) rfl rfl (by (try simp only [List.map_toArray, List.map_cons, List.map_nil]); first | done | rfl | (simp only [List.length_drop, List.length_take]; rfl)) ?_
      with_reducible refine (barrowref24_with.calls x234000_1 x234001_1 x234002_1 x234003_1 x234004_1 x234005_1 x234006_1 (bt t234 x5_1) t235 t236 t237 t238 t239 t240 t241 t242 _ A25.out).mono ?_
      rintro e w28 ⟨rfl, hb⟩
      refine ⟨_, rfl, ?_⟩
      have n0_ := Aside0.mk (blk_below (g := gb231) (o := .cells #[.int .i64 a0_0, .int .i64 a0_1, .int .i64 a0_2, .int .i64 a0_3, .string a0_4, .int .i64 a0_5, .int .i64 a0_6] 29 (0, 0)) (by (with_reducible repeat (first | refine blk_drewN ?_ _ | refine blk_drew ?_ | refine blk_alloc ?_ _)); exact BK231.out) hb)
      have n1_ := Aside0.mk (blk_below (g := gb232) (o := .cells #[.int .i64 0, .int .i64 0, .int .i64 0, .int .i64 0, .string (⟨#[]⟩ : ByteArray), .int .i64 0, .int .i64 0] 29 (0, 0)) (by (with_reducible repeat (first | refine blk_drewN ?_ _ | refine blk_drew ?_ | refine blk_alloc ?_ _)); exact BK232.out) hb)
      have n2_ := Aside0.mk (blk_below (g := gb233) (o := .cells #[.int .i64 x234000_1, .int .i64 x234001_1, .int .i64 x234002_1, .int .i64 x234003_1, .string x234004_1, .int .i64 x234005_1, .int .i64 x234006_1] 29 (0, 0)) (by (with_reducible repeat (first | refine blk_drewN ?_ _ | refine blk_drew ?_ | refine blk_alloc ?_ _)); exact BK233.out) hb)
      have n3_ := Aside0.mk (below_step (by repeat (first | (with_reducible first | exact HB.out | apply below_alloc | apply pw_below_drewN | apply below_drew1 | refine below_set ?_ GE231.out | refine below_set ?_ GE232.out | refine below_set ?_ GE233.out) | exact HB.out)) hb)
      clear BK231
      clear BK232
      clear BK233
      clear HB
      have BK231 := n0_
      have BK232 := n1_
      have BK233 := n2_
      have HB := n3_
      clear n0_ n1_ n2_ n3_
      (try clear hb)
      (try clear hb2)
      (try clear hk)
      (try clear hi)
      refine hK.out _ _ ⟨(blk_cell BK233.out 0).trans rfl, (blk_cell BK233.out 1).trans rfl, (blk_cell BK233.out 2).trans rfl, (blk_cell BK233.out 3).trans rfl, (blk_cell BK233.out 4).trans rfl, (blk_cell BK233.out 5).trans rfl, (blk_cell BK233.out 6).trans rfl, (blk_cell BK231.out 0).trans rfl, (blk_cell BK231.out 1).trans rfl, (blk_cell BK231.out 2).trans rfl, (blk_cell BK231.out 3).trans rfl, (blk_cell BK231.out 4).trans rfl, (blk_cell BK231.out 5).trans rfl, (blk_cell BK231.out 6).trans rfl⟩ (fun hHeld => ?_)
      clear hK K
      refine norm_ (a' := ?_) ?_ ?_
      rotate_left
      ·show Act.put _ (some 34) _ = _
       simp only [Act.put, List.setIfInBounds_toArray, List.set_cons_zero, List.set_cons_succ, i64_w, i32_w]
       rfl
      refine last_ (i := 10) (N := none) #[true, true, true, true, true, true, true, true, true, true, true] rfl rfl (one_of HT_.out (by kernel_rfl)) (by decide) (fun K hK => ?_)
      have hs29 : w28.cell? ⟨gb233, 0, none⟩ = some (.int .i64 x234000_1) := (blk_cell BK233.out 0).trans rfl
      have hfs29 := blk_frozen BK233.out 0
      have hns29_0 := NB231_233.out
      have hns29_1 := NB232_233.out
      have hms29_0 := NB233_231.out
      have hms29_1 := NB233_232.out
      have hs30 : w28.cell? ⟨gb233, 1, none⟩ = some (.int .i64 x234001_1) := (blk_cell BK233.out 1).trans rfl
      have hfs30 := blk_frozen BK233.out 1
      have hns30_0 := NB231_233.out
      have hns30_1 := NB232_233.out
      have hms30_0 := NB233_231.out
      have hms30_1 := NB233_232.out
      have hs31 : w28.cell? ⟨gb233, 2, none⟩ = some (.int .i64 x234002_1) := (blk_cell BK233.out 2).trans rfl
      have hfs31 := blk_frozen BK233.out 2
      have hns31_0 := NB231_233.out
      have hns31_1 := NB232_233.out
      have hms31_0 := NB233_231.out
      have hms31_1 := NB233_232.out
      have hs32 : w28.cell? ⟨gb233, 3, none⟩ = some (.int .i64 x234003_1) := (blk_cell BK233.out 3).trans rfl
      have hfs32 := blk_frozen BK233.out 3
      have hns32_0 := NB231_233.out
      have hns32_1 := NB232_233.out
      have hms32_0 := NB233_231.out
      have hms32_1 := NB233_232.out
      have hs33 : w28.cell? ⟨gb233, 4, none⟩ = some (.string x234004_1) := (blk_cell BK233.out 4).trans rfl
      have hfs33 := blk_frozen BK233.out 4
      have hns33_0 := NB231_233.out
      have hns33_1 := NB232_233.out
      have hms33_0 := NB233_231.out
      have hms33_1 := NB233_232.out
      have hs34 : w28.cell? ⟨gb233, 5, none⟩ = some (.int .i64 x234005_1) := (blk_cell BK233.out 5).trans rfl
      have hfs34 := blk_frozen BK233.out 5
      have hns34_0 := NB231_233.out
      have hns34_1 := NB232_233.out
      have hms34_0 := NB233_231.out
      have hms34_1 := NB233_232.out
      have hs35 : w28.cell? ⟨gb233, 6, none⟩ = some (.int .i64 x234006_1) := (blk_cell BK233.out 6).trans rfl
      have hfs35 := blk_frozen BK233.out 6
      have hns35_0 := NB231_233.out
      have hns35_1 := NB232_233.out
      have hms35_0 := NB233_231.out
      have hms35_1 := NB233_232.out
      refine skip_ (w1 := ?_) (by rfl) rfl ?_ ?_
      rotate_left
      ·go_simp
       rfl
      refine hK.out _ _ ?_
      clear hK K
      refine done_ (done_of HT_.out (by kernel_rfl)) ?_
      try go_wp2
      go_roundg k1
      case measure => have := HK1.out; omega
      case rel => exact ⟨(wrap64 (x5_1 + 1)), (t236), (t237), (t238), (t239), (t240), (t241), (t242), (by first | rfl | (simp; done) | (simp [*]; done)), H', ⟨by have := HK1.out; omega⟩, ⟨by (with_reducible repeat (first | refine blk_drewN ?_ _ | refine blk_drew ?_ | refine blk_alloc ?_ _)); refine blk_far ?_ NB231_233.out _; (with_reducible repeat (first | refine blk_drewN ?_ _ | refine blk_drew ?_ | refine blk_alloc ?_ _)); refine blk_far ?_ NB231_233.out _; (with_reducible repeat (first | refine blk_drewN ?_ _ | refine blk_drew ?_ | refine blk_alloc ?_ _)); refine blk_far ?_ NB231_233.out _; (with_reducible repeat (first | refine blk_drewN ?_ _ | refine blk_drew ?_ | refine blk_alloc ?_ _)); refine blk_far ?_ NB231_233.out _; (with_reducible repeat (first | refine blk_drewN ?_ _ | refine blk_drew ?_ | refine blk_alloc ?_ _)); refine blk_far ?_ NB231_233.out _; (with_reducible repeat (first | refine blk_drewN ?_ _ | refine blk_drew ?_ | refine blk_alloc ?_ _)); refine blk_far ?_ NB231_233.out _; (with_reducible repeat (first | refine blk_drewN ?_ _ | refine blk_drew ?_ | refine blk_alloc ?_ _)); refine blk_far ?_ NB231_233.out _; (with_reducible repeat (first | refine blk_drewN ?_ _ | refine blk_drew ?_ | refine blk_alloc ?_ _)); exact BK231.out⟩, ⟨by (with_reducible repeat (first | refine blk_drewN ?_ _ | refine blk_drew ?_ | refine blk_alloc ?_ _)); refine blk_far ?_ NB232_233.out _; (with_reducible repeat (first | refine blk_drewN ?_ _ | refine blk_drew ?_ | refine blk_alloc ?_ _)); refine blk_far ?_ NB232_233.out _; (with_reducible repeat (first | refine blk_drewN ?_ _ | refine blk_drew ?_ | refine blk_alloc ?_ _)); refine blk_far ?_ NB232_233.out _; (with_reducible repeat (first | refine blk_drewN ?_ _ | refine blk_drew ?_ | refine blk_alloc ?_ _)); refine blk_far ?_ NB232_233.out _; (with_reducible repeat (first | refine blk_drewN ?_ _ | refine blk_drew ?_ | refine blk_alloc ?_ _)); refine blk_far ?_ NB232_233.out _; (with_reducible repeat (first | refine blk_drewN ?_ _ | refine blk_drew ?_ | refine blk_alloc ?_ _)); refine blk_far ?_ NB232_233.out _; (with_reducible repeat (first | refine blk_drewN ?_ _ | refine blk_drew ?_ | refine blk_alloc ?_ _)); refine blk_far ?_ NB232_233.out _; (with_reducible repeat (first | refine blk_drewN ?_ _ | refine blk_drew ?_ | refine blk_alloc ?_ _)); exact BK232.out⟩, ⟨by (with_reducible repeat (first | refine blk_drewN ?_ _ | refine blk_drew ?_ | refine blk_alloc ?_ _)); refine blk_put (cs := #[.int .i64 t236, .int .i64 t237, .int .i64 t238, .int .i64 t239, .string t240, .int .i64 t241, .int .i64 x234006_1]) ?_ 6 _ rfl; (with_reducible repeat (first | refine blk_drewN ?_ _ | refine blk_drew ?_ | refine blk_alloc ?_ _)); refine blk_put (cs := #[.int .i64 t236, .int .i64 t237, .int .i64 t238, .int .i64 t239, .string t240, .int .i64 x234005_1, .int .i64 x234006_1]) ?_ 5 _ rfl; (with_reducible repeat (first | refine blk_drewN ?_ _ | refine blk_drew ?_ | refine blk_alloc ?_ _)); refine blk_put (cs := #[.int .i64 t236, .int .i64 t237, .int .i64 t238, .int .i64 t239, .string x234004_1, .int .i64 x234005_1, .int .i64 x234006_1]) ?_ 4 _ rfl; (with_reducible repeat (first | refine blk_drewN ?_ _ | refine blk_drew ?_ | refine blk_alloc ?_ _)); refine blk_put (cs := #[.int .i64 t236, .int .i64 t237, .int .i64 t238, .int .i64 x234003_1, .string x234004_1, .int .i64 x234005_1, .int .i64 x234006_1]) ?_ 3 _ rfl; (with_reducible repeat (first | refine blk_drewN ?_ _ | refine blk_drew ?_ | refine blk_alloc ?_ _)); refine blk_put (cs := #[.int .i64 t236, .int .i64 t237, .int .i64 x234002_1, .int .i64 x234003_1, .string x234004_1, .int .i64 x234005_1, .int .i64 x234006_1]) ?_ 2 _ rfl; (with_reducible repeat (first | refine blk_drewN ?_ _ | refine blk_drew ?_ | refine blk_alloc ?_ _)); refine blk_put (cs := #[.int .i64 t236, .int .i64 x234001_1, .int .i64 x234002_1, .int .i64 x234003_1, .string x234004_1, .int .i64 x234005_1, .int .i64 x234006_1]) ?_ 1 _ rfl; (with_reducible repeat (first | refine blk_drewN ?_ _ | refine blk_drew ?_ | refine blk_alloc ?_ _)); refine blk_put (cs := #[.int .i64 x234000_1, .int .i64 x234001_1, .int .i64 x234002_1, .int .i64 x234003_1, .string x234004_1, .int .i64 x234005_1, .int .i64 x234006_1]) ?_ 0 _ rfl; (with_reducible repeat (first | refine blk_drewN ?_ _ | refine blk_drew ?_ | refine blk_alloc ?_ _)); exact BK233.out⟩, ⟨by repeat (first | (with_reducible first | exact HB.out | apply below_alloc | apply pw_below_drewN | apply below_drew1 | refine below_set ?_ GE231.out | refine below_set ?_ GE232.out | refine below_set ?_ GE233.out) | exact HB.out)⟩⟩
    ·rw [if_neg c14] at H
     exact absurd H (by simp)
   ·rw [if_neg c13] at H
    have c13b0 : decide (x5_1 < (t234.size : Int)) = false := decide_eq_false c13
    clear c13
    simp only [Option.some.injEq, Prod.mk.injEq] at H
    obtain ⟨rfl, rfl, rfl, rfl, rfl, rfl, rfl⟩ := H
    have hnb36 := NB233_231.out
    have hnc36 := NB231_233.out
    have hnb37 := NB233_232.out
    have hnc37 := NB232_233.out
    have hcz38_0 : wr.cell? ⟨gb233, 0, none⟩ = some (.int .i64 x234000_1) := (blk_cell BK233.out 0).trans rfl
    have hcz38_1 : wr.cell? ⟨gb233, 1, none⟩ = some (.int .i64 x234001_1) := (blk_cell BK233.out 1).trans rfl
    have hcz38_2 : wr.cell? ⟨gb233, 2, none⟩ = some (.int .i64 x234002_1) := (blk_cell BK233.out 2).trans rfl
    have hcz38_3 : wr.cell? ⟨gb233, 3, none⟩ = some (.int .i64 x234003_1) := (blk_cell BK233.out 3).trans rfl
    have hcz38_4 : wr.cell? ⟨gb233, 4, none⟩ = some (.string x234004_1) := (blk_cell BK233.out 4).trans rfl
    have hcz38_5 : wr.cell? ⟨gb233, 5, none⟩ = some (.int .i64 x234005_1) := (blk_cell BK233.out 5).trans rfl
    have hcz38_6 : wr.cell? ⟨gb233, 6, none⟩ = some (.int .i64 x234006_1) := (blk_cell BK233.out 6).trans rfl
    have hfz38_0 := blk_frozen BK233.out 0
    have hfz38_1 := blk_frozen BK233.out 1
    have hfz38_2 := blk_frozen BK233.out 2
    have hfz38_3 := blk_frozen BK233.out 3
    have hfz38_4 := blk_frozen BK233.out 4
    have hfz38_5 := blk_frozen BK233.out 5
    have hfz38_6 := blk_frozen BK233.out 6
    have hnb39 := NB232_231.out
    have hnc39 := NB231_232.out
    have hcz40_0 : wr.cell? ⟨gb232, 0, none⟩ = some (.int .i64 0) := (blk_cell BK232.out 0).trans rfl
    have hcz40_1 : wr.cell? ⟨gb232, 1, none⟩ = some (.int .i64 0) := (blk_cell BK232.out 1).trans rfl
    have hcz40_2 : wr.cell? ⟨gb232, 2, none⟩ = some (.int .i64 0) := (blk_cell BK232.out 2).trans rfl
    have hcz40_3 : wr.cell? ⟨gb232, 3, none⟩ = some (.int .i64 0) := (blk_cell BK232.out 3).trans rfl
    have hcz40_4 : wr.cell? ⟨gb232, 4, none⟩ = some (.string (⟨#[]⟩ : ByteArray)) := (blk_cell BK232.out 4).trans rfl
    have hcz40_5 : wr.cell? ⟨gb232, 5, none⟩ = some (.int .i64 0) := (blk_cell BK232.out 5).trans rfl
    have hcz40_6 : wr.cell? ⟨gb232, 6, none⟩ = some (.int .i64 0) := (blk_cell BK232.out 6).trans rfl
    have hfz40_0 := blk_frozen BK232.out 0
    have hfz40_1 := blk_frozen BK232.out 1
    have hfz40_2 := blk_frozen BK232.out 2
    have hfz40_3 := blk_frozen BK232.out 3
    have hfz40_4 := blk_frozen BK232.out 4
    have hfz40_5 := blk_frozen BK232.out 5
    have hfz40_6 := blk_frozen BK232.out 6
    go_wp2
    refine bodyPost_ret (results_cell_row rfl _ _ gb232 29 #[.int .i64 x234000_1, .int .i64 x234001_1, .int .i64 x234002_1, .int .i64 x234003_1, .string x234004_1, .int .i64 x234005_1, .int .i64 x234006_1] (0, 0) _ rfl (by (with_reducible repeat (first | refine blk_drewN ?_ _ | refine blk_drew ?_ | refine blk_alloc ?_ _)); refine blk_put (cs := #[.int .i64 x234000_1, .int .i64 x234001_1, .int .i64 x234002_1, .int .i64 x234003_1, .string x234004_1, .int .i64 x234005_1, .int .i64 0]) ?_ 6 _ rfl; (with_reducible repeat (first | refine blk_drewN ?_ _ | refine blk_drew ?_ | refine blk_alloc ?_ _)); refine blk_put (cs := #[.int .i64 x234000_1, .int .i64 x234001_1, .int .i64 x234002_1, .int .i64 x234003_1, .string x234004_1, .int .i64 0, .int .i64 0]) ?_ 5 _ rfl; (with_reducible repeat (first | refine blk_drewN ?_ _ | refine blk_drew ?_ | refine blk_alloc ?_ _)); refine blk_put (cs := #[.int .i64 x234000_1, .int .i64 x234001_1, .int .i64 x234002_1, .int .i64 x234003_1, .string (⟨#[]⟩ : ByteArray), .int .i64 0, .int .i64 0]) ?_ 4 _ rfl; (with_reducible repeat (first | refine blk_drewN ?_ _ | refine blk_drew ?_ | refine blk_alloc ?_ _)); refine blk_put (cs := #[.int .i64 x234000_1, .int .i64 x234001_1, .int .i64 x234002_1, .int .i64 0, .string (⟨#[]⟩ : ByteArray), .int .i64 0, .int .i64 0]) ?_ 3 _ rfl; (with_reducible repeat (first | refine blk_drewN ?_ _ | refine blk_drew ?_ | refine blk_alloc ?_ _)); refine blk_put (cs := #[.int .i64 x234000_1, .int .i64 x234001_1, .int .i64 0, .int .i64 0, .string (⟨#[]⟩ : ByteArray), .int .i64 0, .int .i64 0]) ?_ 2 _ rfl; (with_reducible repeat (first | refine blk_drewN ?_ _ | refine blk_drew ?_ | refine blk_alloc ?_ _)); refine blk_put (cs := #[.int .i64 x234000_1, .int .i64 0, .int .i64 0, .int .i64 0, .string (⟨#[]⟩ : ByteArray), .int .i64 0, .int .i64 0]) ?_ 1 _ rfl; (with_reducible repeat (first | refine blk_drewN ?_ _ | refine blk_drew ?_ | refine blk_alloc ?_ _)); refine blk_put (cs := #[.int .i64 0, .int .i64 0, .int .i64 0, .int .i64 0, .string (⟨#[]⟩ : ByteArray), .int .i64 0, .int .i64 0]) ?_ 0 _ rfl; (with_reducible repeat (first | refine blk_drewN ?_ _ | refine blk_drew ?_ | refine blk_alloc ?_ _)); exact BK232.out) Tryd.underlying29 rfl (by kernel_rfl)) rfl ?_
    exact ⟨by first | rfl | (simp [errW_none, errW_some] <;> rfl) | (simp [*, errW_none, errW_some] <;> rfl), by repeat (first | (with_reducible first | exact HB.out | apply below_alloc | apply pw_below_drewN | apply below_drew1 | refine below_set ?_ GE231.out | refine below_set ?_ GE232.out | refine below_set ?_ GE233.out) | exact HB.out)⟩

end Go.Proofs.YtlmdhpfggobogaaDoor.G

-- PRINTED by print.py (a twelfth state) out of the translation. Not trusted: Lean checks it.
namespace Go.Proofs.YtlmdhpfggobogaaDoor.G
open Go.RowKit Go.Proofs.YtlmdhpfggobogaaDoorW.PrintWords Go.Proofs.YtlmdhpfggobogaaDoorW.PrintLast Go.Proofs.YtlmdhpfggobogaaDoorW.PrintMore
attribute [local go_sem] max2_int min2_int max_two min_two max_three min_three max_four min_four   -- for this text's walks alone
set_option linter.unusedVariables false
set_option linter.unusedSimpArgs false

/-! ### barrowref24_PrintOp: function 22 -/
def barrowref24_PrintOp.f (k : Nat) (a0_0 : Int) (a0_1 : Int) (a0_2 : Int) (a0_3 : Int) (a0_4 : ByteArray) (a0_5 : Int) (a0_6 : Int) : Option (ByteArray) := (barrowref24_line.f k ([] : List Int) a0_0 a0_1 a0_2 a0_3 a0_4 a0_5 a0_6).bind fun t293 => (some (strOfNums t293))
theorem barrowref24_PrintOp.mono : ∀ a0 a1 a2 a3 a4 a5 a6 k, LeO (barrowref24_PrintOp.f k a0 a1 a2 a3 a4 a5 a6) (barrowref24_PrintOp.f (k + 1) a0 a1 a2 a3 a4 a5 a6) := by
 intro a0 a1 a2 a3 a4 a5 a6 k
 unfold barrowref24_PrintOp.f
 repeat' first
   | (with_reducible exact barrowref24_line.mono _ _ _ _ _ _ _ _ _)
   | (with_reducible exact LeO.refl _)
   | (with_reducible exact LeO.none _)
   | (with_reducible refine LeO.ite ?_ ?_)
   | (with_reducible refine LeO.bind ?_ (fun _ => ?_))
   | exact barrowref24_line.mono _ _ _ _ _ _ _ _ _
   | exact LeO.none _
   | refine LeO.ite ?_ ?_
   | refine LeO.bind ?_ (fun _ => ?_)
set_option maxHeartbeats 8000000 in
set_option maxRecDepth 100000 in
theorem barrowref24_PrintOp.calls (k : Nat) (a0_0 : Int) (a0_1 : Int) (a0_2 : Int) (a0_3 : Int) (a0_4 : ByteArray) (a0_5 : Int) (a0_6 : Int) (r : ByteArray) (w : World) (h : barrowref24_PrintOp.f k a0_0 a0_1 a0_2 a0_3 a0_4 a0_5 a0_6 = some r) :
  Calls Tryd.prog 22 #[.agg #[.int .i64 a0_0, .int .i64 a0_1, .int .i64 a0_2, .int .i64 a0_3, .string a0_4, .int .i64 a0_5, .int .i64 a0_6]] w fun e w' => e = .returned (.string r) ∧ Below w.heap.size w w' := by
 have hu29 := Tryd.underlying29
 have HB := Aside0.mk (Below.refl w.heap.size w)
 have H : ((barrowref24_line.f k ([] : List Int) a0_0 a0_1 a0_2 a0_3 a0_4 a0_5 a0_6).bind fun t293 => (some (strOfNums t293))) = some r := h
 clear h
 replace H := Option.bind_eq_some_iff.mp H
 obtain ⟨t293, A20, H⟩ := H
 replace H : (some (strOfNums t293)) = some r := H
 have A2 := Aside0.mk A20
 clear A20
 obtain rfl := Option.some.inj H
 go_enter Tryd.func22, Tryd.ntmps22
 go_wp2_with (first | ((with_reducible refine gate_dst (N := 1) rfl ?_); refine box_event ?hg (N := 1) ?hd (cs := #[.int .i64 a0_0, .int .i64 a0_1, .int .i64 a0_2, .int .i64 a0_3, .string a0_4, .int .i64 a0_5, .int .i64 a0_6]) (t := 29) ?hr ?_; (case hd => rfl); (case hg => rfl); (case hr => first | (go_simp; done) | (go_simp; rfl)); intro gb292 hg w3 hbox hb; have n0_ := Aside0.mk (below_step (by repeat (first | (with_reducible first | exact HB.out | apply below_alloc | apply pw_below_drewN | apply below_drew1) | exact HB.out)) hb); have n1_ := Aside0.mk (hbox); have n2_ := Aside0.mk ((by rw [hg]; exact (below_size (by repeat (first | (with_reducible first | exact HB.out | apply below_alloc | apply pw_below_drewN | apply below_drew1) | exact HB.out))) : w.heap.size ≤ gb292)); have n3_ := Aside0.mk ((by rw [hg]; exact (below_size (by repeat (first | (with_reducible first | exact HB.out | apply below_alloc | apply pw_below_drewN | apply below_drew1) | exact HB.out))) : w.heap.size ≤ gb292)); clear HB; have HB := n0_; have BK292 := n1_; have GW292 := n2_; have GE292 := n3_; clear n0_ n1_ n2_ n3_; clear hb hbox hg; have hcz4_0 : w3.cell? ⟨gb292, 0, none⟩ = some (.int .i64 a0_0) := (blk_cell BK292.out 0).trans rfl; have hcz4_1 : w3.cell? ⟨gb292, 1, none⟩ = some (.int .i64 a0_1) := (blk_cell BK292.out 1).trans rfl; have hcz4_2 : w3.cell? ⟨gb292, 2, none⟩ = some (.int .i64 a0_2) := (blk_cell BK292.out 2).trans rfl; have hcz4_3 : w3.cell? ⟨gb292, 3, none⟩ = some (.int .i64 a0_3) := (blk_cell BK292.out 3).trans rfl; have hcz4_4 : w3.cell? ⟨gb292, 4, none⟩ = some (.string a0_4) := (blk_cell BK292.out 4).trans rfl; have hcz4_5 : w3.cell? ⟨gb292, 5, none⟩ = some (.int .i64 a0_5) := (blk_cell BK292.out 5).trans rfl; have hcz4_6 : w3.cell? ⟨gb292, 6, none⟩ = some (.int .i64 a0_6) := (blk_cell BK292.out 6).trans rfl; have hfz4_0 := blk_frozen BK292.out 0; have hfz4_1 := blk_frozen BK292.out 1; have hfz4_2 := blk_frozen BK292.out 2; have hfz4_3 := blk_frozen BK292.out 3; have hfz4_4 := blk_frozen BK292.out 4; have hfz4_5 := blk_frozen BK292.out 5; have hfz4_6 := blk_frozen BK292.out 6) | ((with_reducible refine gate_callee (f := 34) rfl ?_); refine goesL_ (some 4) rfl rfl Tryd.func34 (by kernel_rfl) rfl #[.slice none 0 0, .agg #[.int .i64 a0_0, .int .i64 a0_1, .int .i64 a0_2, .int .i64 a0_3, .string a0_4, .int .i64 a0_5, .int .i64 a0_6]] rfl (by (try simp only [List.map_toArray, List.map_cons, List.map_nil]); first | done | rfl | (simp only [List.length_drop, List.length_take]; rfl)) ?_; (refine (barrowref24_line.calls k (fun k_ => some k_ = (.slice none 0 0 : Value).ownBlock) (.slice none 0 0) ([] : List Int) a0_0 a0_1 a0_2 a0_3 a0_4 a0_5 a0_6 t293 w _ ?side1 ?side2 A2.out).mono ?_); (case side1 => repeat (first | (with_reducible first | exact HB.out | apply below_alloc | apply pw_below_drewN | apply below_drew1 | refine below_set ?_ GE292.out) | exact HB.out)); (case side2 => exact Kd.R_nil _ _ _ _ _); rintro e w5 ⟨v294, rfl, ho0, hb, hkp⟩; refine ⟨_, rfl, ?_⟩; have n0_ := Aside0.mk (blk_kept (by (with_reducible repeat (first | refine blk_drewN ?_ _ | refine blk_drew ?_ | refine blk_alloc ?_ _)); exact BK292.out) hkp (fun hs_ => (fun e_ => by simp [Value.ownBlock] at e_) hs_)); have n1_ := Aside0.mk (Kd.R_mono (ok' := fun k_ => True) ho0 (fun k_ hk_ => trivial)); have n2_ := Aside0.mk (hb); clear BK292; clear HB; have BK292 := n0_; have HO295 := n1_; have HB := n2_; clear n0_ n1_ n2_; (try clear hb); (try clear hkp); (try clear ho0); have hcv6 := own_string (P := Tryd.prog) Tryd.underlying48 Tryd.underlying5 Tryd.underlying9 (Kd.own_of_R HO295.out)))
 go_ret
 exact ⟨by first | rfl | (simp [errW_none, errW_some] <;> rfl) | (simp [*, errW_none, errW_some] <;> rfl), by repeat (first | (with_reducible first | exact HB.out | apply below_alloc | apply pw_below_drewN | apply below_drew1 | refine below_set ?_ GE292.out) | exact HB.out)⟩

end Go.Proofs.YtlmdhpfggobogaaDoor.G
