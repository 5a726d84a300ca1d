import Derived.Test.YtlmdhpfggobogaaDoorQSo5
import Derived.Great.BuildSlice
import Derived.Deep.WholeRow
import Derived.Test.YtlmdhpfggobogaaDoorQSo6
/- The reference's word and shape of a kind: tables of 17 texts, read at the kind. -/
namespace Go.Proofs.YtlmdhpfggobogaaDoor.G
open Go.RowKit Go.Proofs.YtlmdhpfggobogaaDoorW.PrintWords Go.Proofs.YtlmdhpfggobogaaDoorW.PrintLast Go.Proofs.YtlmdhpfggobogaaDoorW.PrintMore
set_option linter.unusedVariables false
theorem kind_cases (k : Int) : k = 1 ∨ k = 2 ∨ k = 3 ∨ k = 4 ∨ k = 5 ∨ k = 6 ∨ k = 7 ∨ k = 8 ∨ k = 9 ∨ k = 10 ∨ k = 11 ∨ k = 12 ∨ k = 13 ∨ k = 14 ∨ k = 15 ∨ k = 16 ∨ k < 1 ∨ 16 < k := by omega
theorem st95 {ops : Array Oper} {rest : List Oper} {o : Oper} {a : Act} {Q : Exit → Act → World → Prop} {w : World} {O C : Array Value} (hgd : o.guard = none)
  (ho : o.op = .store 95 (.tmp 3) (.tmp 4)) (hd : o.dst = none) (hx : a.eval (.tmp 3) = .pointer (some ⟨w.heap.size, 0, none⟩)) (hy : a.eval (.tmp 4) = .agg C)
  (hO : O.size = 17) (hC : C.size = 17) (h1 : C.all (·.oneCell') = true) (h : wpList Tryd.prog ops Q rest a (w.alloc (.cells C 95))) :
  wpList Tryd.prog ops Q (o :: rest) a (w.alloc (.cells O 95)) :=
 wpList_store_rowTo hgd 95 (.tmp 3) (.tmp 4) ho hd w.heap.size C hx hy 95 O (heap_alloc_last w _) (by rw [hC]; kernel_rfl) (by omega) h1
  (by rw [show (w.alloc (.cells O 95)).setRow w.heap.size C = w.alloc (.cells C 95) from World.setRow_alloc_new w O C 95]; exact h)
def barrowref24_word.f (a0 : Int) : Option ByteArray := if a0 = 1 then some (⟨#[115, 101, 116]⟩ : ByteArray) else (if a0 = 2 then some (⟨#[97, 100, 100]⟩ : ByteArray) else (if a0 = 3 then some (⟨#[114, 101, 109, 111, 118, 101]⟩ : ByteArray) else (if a0 = 4 then some (⟨#[114, 101, 109, 111, 118, 101, 116, 111]⟩ : ByteArray) else (if a0 = 5 then some (⟨#[99, 108, 101, 97, 114]⟩ : ByteArray) else (if a0 = 6 then some (⟨#[99, 108, 101, 97, 114, 116, 111]⟩ : ByteArray) else (if a0 = 7 then some (⟨#[114, 101, 97, 100]⟩ : ByteArray) else (if a0 = 8 then some (⟨#[115, 121, 110, 99]⟩ : ByteArray) else (if a0 = 9 then some (⟨#[102, 117, 108, 108]⟩ : ByteArray) else (if a0 = 10 then some (⟨#[97, 115, 107]⟩ : ByteArray) else (if a0 = 11 then some (⟨#[100, 101, 108, 105, 118, 101, 114]⟩ : ByteArray) else (if a0 = 12 then some (⟨#[99, 111, 112, 121]⟩ : ByteArray) else (if a0 = 13 then some (⟨#[100, 114, 111, 112]⟩ : ByteArray) else (if a0 = 14 then some (⟨#[116, 114, 105, 109]⟩ : ByteArray) else (if a0 = 15 then some (⟨#[114, 101, 115, 116, 97, 114, 116]⟩ : ByteArray) else (if a0 = 16 then some (⟨#[112, 117, 115, 104]⟩ : ByteArray) else (some (⟨#[111, 112]⟩ : ByteArray)))))))))))))))))
def barrowref24_word.C : Array Value := #[.string (⟨#[111, 112]⟩ : ByteArray), .string (⟨#[115, 101, 116]⟩ : ByteArray), .string (⟨#[97, 100, 100]⟩ : ByteArray), .string (⟨#[114, 101, 109, 111, 118, 101]⟩ : ByteArray), .string (⟨#[114, 101, 109, 111, 118, 101, 116, 111]⟩ : ByteArray), .string (⟨#[99, 108, 101, 97, 114]⟩ : ByteArray), .string (⟨#[99, 108, 101, 97, 114, 116, 111]⟩ : ByteArray), .string (⟨#[114, 101, 97, 100]⟩ : ByteArray), .string (⟨#[115, 121, 110, 99]⟩ : ByteArray), .string (⟨#[102, 117, 108, 108]⟩ : ByteArray), .string (⟨#[97, 115, 107]⟩ : ByteArray), .string (⟨#[100, 101, 108, 105, 118, 101, 114]⟩ : ByteArray), .string (⟨#[99, 111, 112, 121]⟩ : ByteArray), .string (⟨#[100, 114, 111, 112]⟩ : ByteArray), .string (⟨#[116, 114, 105, 109]⟩ : ByteArray), .string (⟨#[114, 101, 115, 116, 97, 114, 116]⟩ : ByteArray), .string (⟨#[112, 117, 115, 104]⟩ : ByteArray)]
theorem barrowref24_word.cell (r : ByteArray) (a0 : Int) (w : World) (h : barrowref24_word.f a0 = some r) (h1 : 1 ≤ a0) (h2 : a0 ≤ 16) : (w.alloc (.cells #[.string (⟨#[111, 112]⟩ : ByteArray), .string (⟨#[115, 101, 116]⟩ : ByteArray), .string (⟨#[97, 100, 100]⟩ : ByteArray), .string (⟨#[114, 101, 109, 111, 118, 101]⟩ : ByteArray), .string (⟨#[114, 101, 109, 111, 118, 101, 116, 111]⟩ : ByteArray), .string (⟨#[99, 108, 101, 97, 114]⟩ : ByteArray), .string (⟨#[99, 108, 101, 97, 114, 116, 111]⟩ : ByteArray), .string (⟨#[114, 101, 97, 100]⟩ : ByteArray), .string (⟨#[115, 121, 110, 99]⟩ : ByteArray), .string (⟨#[102, 117, 108, 108]⟩ : ByteArray), .string (⟨#[97, 115, 107]⟩ : ByteArray), .string (⟨#[100, 101, 108, 105, 118, 101, 114]⟩ : ByteArray), .string (⟨#[99, 111, 112, 121]⟩ : ByteArray), .string (⟨#[100, 114, 111, 112]⟩ : ByteArray), .string (⟨#[116, 114, 105, 109]⟩ : ByteArray), .string (⟨#[114, 101, 115, 116, 97, 114, 116]⟩ : ByteArray), .string (⟨#[112, 117, 115, 104]⟩ : ByteArray)] 95)).cell? ⟨w.heap.size, a0.toNat, none⟩ = some (.string r) := by
  rw [cell_of_row _ w.heap.size a0.toNat _ 95 (0, 0) (heap_alloc_last w _)]
  unfold barrowref24_word.f at h
  rcases kind_cases a0 with rfl | rfl | rfl | rfl | rfl | rfl | rfl | rfl | rfl | rfl | rfl | rfl | rfl | rfl | rfl | rfl | h3 | h3
  all_goals first | (have h4 := Option.some.inj h; subst h4; rfl) | omega
set_option maxHeartbeats 4000000 in
set_option maxRecDepth 100000 in
theorem barrowref24_word.calls (a0 : Int) (r : ByteArray) (w : World) (h : barrowref24_word.f a0 = some r) :
    Calls Tryd.prog 52 #[.int .i64 a0] w fun e w' => e = .returned (.string r) ∧ Below w.heap.size w w' := by
  have hb : Below w.heap.size w (w.alloc (.cells #[.string (⟨#[111, 112]⟩ : ByteArray), .string (⟨#[115, 101, 116]⟩ : ByteArray), .string (⟨#[97, 100, 100]⟩ : ByteArray), .string (⟨#[114, 101, 109, 111, 118, 101]⟩ : ByteArray), .string (⟨#[114, 101, 109, 111, 118, 101, 116, 111]⟩ : ByteArray), .string (⟨#[99, 108, 101, 97, 114]⟩ : ByteArray), .string (⟨#[99, 108, 101, 97, 114, 116, 111]⟩ : ByteArray), .string (⟨#[114, 101, 97, 100]⟩ : ByteArray), .string (⟨#[115, 121, 110, 99]⟩ : ByteArray), .string (⟨#[102, 117, 108, 108]⟩ : ByteArray), .string (⟨#[97, 115, 107]⟩ : ByteArray), .string (⟨#[100, 101, 108, 105, 118, 101, 114]⟩ : ByteArray), .string (⟨#[99, 111, 112, 121]⟩ : ByteArray), .string (⟨#[100, 114, 111, 112]⟩ : ByteArray), .string (⟨#[116, 114, 105, 109]⟩ : ByteArray), .string (⟨#[114, 101, 115, 116, 97, 114, 116]⟩ : ByteArray), .string (⟨#[112, 117, 115, 104]⟩ : ByteArray)] 95)) := (Below.refl _ w).alloc (Nat.le_refl _) _
  by_cases h1 : a0 < 1
  · unfold barrowref24_word.f at h
    (iterate 16 rw [if_neg (by omega)] at h); have h2 := Option.some.inj h; subst h2; clear h
    have k1 := decide_eq_true h1
    go_enter Tryd.func52, Tryd.ntmps52
    go_wp2_with (first | (refine st95 rfl rfl rfl rfl rfl rfl rfl rfl ?_) | go_in)
    repeat (go_quiet (fail); try go_wp2)
    go_ret
    exact ⟨rfl, hb⟩
  · by_cases h2 : a0 > 16
    · unfold barrowref24_word.f at h
      (iterate 16 rw [if_neg (by omega)] at h); have h3 := Option.some.inj h; subst h3; clear h
      have k1 := decide_eq_false h1
      have k2 := decide_eq_true h2
      go_enter Tryd.func52, Tryd.ntmps52
      go_wp2_with (first | (refine st95 rfl rfl rfl rfl rfl rfl rfl rfl ?_) | go_in)
      repeat (go_quiet (fail); try go_wp2)
      go_ret
      exact ⟨rfl, hb⟩
    · have hc := barrowref24_word.cell r a0 w h (by omega) (by omega)
      have k1 := decide_eq_false h1
      have k2 := decide_eq_false h2
      have k3 : (0 ≤ a0) = True := eq_true (by omega)
      have k4 : (a0 < 17) = True := eq_true (by omega)
      clear h
      go_enter Tryd.func52, Tryd.ntmps52
      go_wp2_with (first | (refine st95 rfl rfl rfl rfl rfl rfl rfl rfl ?_) | go_in)
      repeat (go_quiet (fail); try go_wp2)
      go_ret
      exact ⟨rfl, hb⟩
def barrowref24_shape.f (a0 : Int) : Option ByteArray := if a0 = 1 then some (⟨#[82, 67, 83, 81]⟩ : ByteArray) else (if a0 = 2 then some (⟨#[82, 67, 83, 81]⟩ : ByteArray) else (if a0 = 3 then some (⟨#[82, 67, 83]⟩ : ByteArray) else (if a0 = 4 then some (⟨#[82, 83, 78]⟩ : ByteArray) else (if a0 = 5 then some (⟨#[82, 67]⟩ : ByteArray) else (if a0 = 6 then some (⟨#[82, 78]⟩ : ByteArray) else (if a0 = 7 then some (⟨#[82, 67]⟩ : ByteArray) else (if a0 = 8 then some (⟨#[82, 84]⟩ : ByteArray) else (if a0 = 9 then some (⟨#[82, 84]⟩ : ByteArray) else (if a0 = 10 then some (⟨#[82, 84]⟩ : ByteArray) else (if a0 = 11 then some (⟨#[78]⟩ : ByteArray) else (if a0 = 12 then some (⟨#[78]⟩ : ByteArray) else (if a0 = 13 then some (⟨#[78]⟩ : ByteArray) else (if a0 = 14 then some (⟨#[78, 81]⟩ : ByteArray) else (if a0 = 15 then some (⟨#[82]⟩ : ByteArray) else (if a0 = 16 then some (⟨#[82, 84, 78]⟩ : ByteArray) else (some (⟨#[75]⟩ : ByteArray)))))))))))))))))
def barrowref24_shape.C : Array Value := #[.string (⟨#[75]⟩ : ByteArray), .string (⟨#[82, 67, 83, 81]⟩ : ByteArray), .string (⟨#[82, 67, 83, 81]⟩ : ByteArray), .string (⟨#[82, 67, 83]⟩ : ByteArray), .string (⟨#[82, 83, 78]⟩ : ByteArray), .string (⟨#[82, 67]⟩ : ByteArray), .string (⟨#[82, 78]⟩ : ByteArray), .string (⟨#[82, 67]⟩ : ByteArray), .string (⟨#[82, 84]⟩ : ByteArray), .string (⟨#[82, 84]⟩ : ByteArray), .string (⟨#[82, 84]⟩ : ByteArray), .string (⟨#[78]⟩ : ByteArray), .string (⟨#[78]⟩ : ByteArray), .string (⟨#[78]⟩ : ByteArray), .string (⟨#[78, 81]⟩ : ByteArray), .string (⟨#[82]⟩ : ByteArray), .string (⟨#[82, 84, 78]⟩ : ByteArray)]
theorem barrowref24_shape.cell (r : ByteArray) (a0 : Int) (w : World) (h : barrowref24_shape.f a0 = some r) (h1 : 1 ≤ a0) (h2 : a0 ≤ 16) : (w.alloc (.cells #[.string (⟨#[75]⟩ : ByteArray), .string (⟨#[82, 67, 83, 81]⟩ : ByteArray), .string (⟨#[82, 67, 83, 81]⟩ : ByteArray), .string (⟨#[82, 67, 83]⟩ : ByteArray), .string (⟨#[82, 83, 78]⟩ : ByteArray), .string (⟨#[82, 67]⟩ : ByteArray), .string (⟨#[82, 78]⟩ : ByteArray), .string (⟨#[82, 67]⟩ : ByteArray), .string (⟨#[82, 84]⟩ : ByteArray), .string (⟨#[82, 84]⟩ : ByteArray), .string (⟨#[82, 84]⟩ : ByteArray), .string (⟨#[78]⟩ : ByteArray), .string (⟨#[78]⟩ : ByteArray), .string (⟨#[78]⟩ : ByteArray), .string (⟨#[78, 81]⟩ : ByteArray), .string (⟨#[82]⟩ : ByteArray), .string (⟨#[82, 84, 78]⟩ : ByteArray)] 95)).cell? ⟨w.heap.size, a0.toNat, none⟩ = some (.string r) := by
  rw [cell_of_row _ w.heap.size a0.toNat _ 95 (0, 0) (heap_alloc_last w _)]
  unfold barrowref24_shape.f at h
  rcases kind_cases a0 with rfl | rfl | rfl | rfl | rfl | rfl | rfl | rfl | rfl | rfl | rfl | rfl | rfl | rfl | rfl | rfl | h3 | h3
  all_goals first | (have h4 := Option.some.inj h; subst h4; rfl) | omega
set_option maxHeartbeats 4000000 in
set_option maxRecDepth 100000 in
theorem barrowref24_shape.calls (a0 : Int) (r : ByteArray) (w : World) (h : barrowref24_shape.f a0 = some r) :
    Calls Tryd.prog 44 #[.int .i64 a0] w fun e w' => e = .returned (.string r) ∧ Below w.heap.size w w' := by
  have hb : Below w.heap.size w (w.alloc (.cells #[.string (⟨#[75]⟩ : ByteArray), .string (⟨#[82, 67, 83, 81]⟩ : ByteArray), .string (⟨#[82, 67, 83, 81]⟩ : ByteArray), .string (⟨#[82, 67, 83]⟩ : ByteArray), .string (⟨#[82, 83, 78]⟩ : ByteArray), .string (⟨#[82, 67]⟩ : ByteArray), .string (⟨#[82, 78]⟩ : ByteArray), .string (⟨#[82, 67]⟩ : ByteArray), .string (⟨#[82, 84]⟩ : ByteArray), .string (⟨#[82, 84]⟩ : ByteArray), .string (⟨#[82, 84]⟩ : ByteArray), .string (⟨#[78]⟩ : ByteArray), .string (⟨#[78]⟩ : ByteArray), .string (⟨#[78]⟩ : ByteArray), .string (⟨#[78, 81]⟩ : ByteArray), .string (⟨#[82]⟩ : ByteArray), .string (⟨#[82, 84, 78]⟩ : ByteArray)] 95)) := (Below.refl _ w).alloc (Nat.le_refl _) _
  by_cases h1 : a0 < 1
  · unfold barrowref24_shape.f at h
    (iterate 16 rw [if_neg (by omega)] at h); have h2 := Option.some.inj h; subst h2; clear h
    have k1 := decide_eq_true h1
    go_enter Tryd.func44, Tryd.ntmps44
    go_wp2_with (first | (refine st95 rfl rfl rfl rfl rfl rfl rfl rfl ?_) | go_in)
    repeat (go_quiet (fail); try go_wp2)
    go_ret
    exact ⟨rfl, hb⟩
  · by_cases h2 : a0 > 16
    · unfold barrowref24_shape.f at h
      (iterate 16 rw [if_neg (by omega)] at h); have h3 := Option.some.inj h; subst h3; clear h
      have k1 := decide_eq_false h1
      have k2 := decide_eq_true h2
      go_enter Tryd.func44, Tryd.ntmps44
      go_wp2_with (first | (refine st95 rfl rfl rfl rfl rfl rfl rfl rfl ?_) | go_in)
      repeat (go_quiet (fail); try go_wp2)
      go_ret
      exact ⟨rfl, hb⟩
    · have hc := barrowref24_shape.cell r a0 w h (by omega) (by omega)
      have k1 := decide_eq_false h1
      have k2 := decide_eq_false h2
      have k3 : (0 ≤ a0) = True := eq_true (by omega)
      have k4 : (a0 < 17) = True := eq_true (by omega)
      clear h
      go_enter Tryd.func44, Tryd.ntmps44
      go_wp2_with (first | (refine st95 rfl rfl rfl rfl rfl rfl rfl rfl ?_) | go_in)
      repeat (go_quiet (fail); try go_wp2)
      go_ret
      exact ⟨rfl, hb⟩
end Go.Proofs.YtlmdhpfggobogaaDoor.G

-- PRINTED by print.py (a twelfth state) out of the translation. Not trusted: Lean checks it.
namespace Go.Proofs.YtlmdhpfggobogaaDoor.G
open Go.RowKit Go.Proofs.YtlmdhpfggobogaaDoorW.PrintWords Go.Proofs.YtlmdhpfggobogaaDoorW.PrintLast Go.Proofs.YtlmdhpfggobogaaDoorW.PrintMore
attribute [local go_sem] max2_int min2_int max_two min_two max_three min_three max_four min_four   -- for this text's walks alone
set_option linter.unusedVariables false
set_option linter.unusedSimpArgs false

/-! ### barrowref24_line: function 34 -/
mutual
def barrowref24_line.l0 : Nat → List Int → ByteArray → Int → Int → Int → Int → Int → ByteArray → Int → Int → Option (List Int)
 | 0, _, _, _, _, _, _, _, _, _, _ => none
 | k + 1, x0, x5, x6, x277000, x277001, x277002, x277003, x277004, x277005, x277006 => if x6 < (x5.size : Int) then (if 0 ≤ x6 then (if x0.length < 140737488355328 then (barrowref24_line.l0 k (x0 ++ [bt x5 x6]) x5 (wrap64 (x6 + 1)) x277000 x277001 x277002 x277003 x277004 x277005 x277006) else (none)) else (none)) else ((barrowref24_shape.f x277000).bind fun t281 => (barrowref24_line.l1 k x0 t281 0 x277000 x277001 x277002 x277003 x277004 x277005 x277006))
def barrowref24_line.l1 : Nat → List Int → ByteArray → Int → Int → Int → Int → Int → ByteArray → Int → Int → Option (List Int)
 | 0, _, _, _, _, _, _, _, _, _, _ => none
 | k + 1, x0, x7, x8, x277000, x277001, x277002, x277003, x277004, x277005, x277006 => if x8 < (x7.size : Int) then (if x0.length < 140737488355328 then ((some (x0 ++ [32] : List Int)).bind fun y282 => (if 0 ≤ x8 then (if (bt x7 x8) = 83 then ((barrowref24_sku.f k y282 x277004).bind fun t285 => (barrowref24_line.l1 k t285 x7 (wrap64 (x8 + 1)) x277000 x277001 x277002 x277003 x277004 x277005 x277006)) else ((barrowref24_get.f x277000 x277001 x277002 x277003 x277004 x277005 x277006 (bt x7 x8)).bind fun t288 => ((barrowref24_number.f k y282 t288).bind fun t289 => (barrowref24_line.l1 k t289 x7 (wrap64 (x8 + 1)) x277000 x277001 x277002 x277003 x277004 x277005 x277006)))) else (none))) else (none)) else (some x0)
end
def barrowref24_line.f (k : Nat) (l0 : List Int) (a1_0 : Int) (a1_1 : Int) (a1_2 : Int) (a1_3 : Int) (a1_4 : ByteArray) (a1_5 : Int) (a1_6 : Int) : Option (List Int) := (barrowref24_word.f a1_0).bind fun t277 => (barrowref24_line.l0 k l0 t277 0 a1_0 a1_1 a1_2 a1_3 a1_4 a1_5 a1_6)
theorem barrowref24_line.mono_l : ∀ k, (∀ y0 y1 y2 y3 y4 y5 y6 y7 y8 y9, LeO (barrowref24_line.l0 k y0 y1 y2 y3 y4 y5 y6 y7 y8 y9) (barrowref24_line.l0 (k + 1) y0 y1 y2 y3 y4 y5 y6 y7 y8 y9)) ∧ (∀ y0 y1 y2 y3 y4 y5 y6 y7 y8 y9, LeO (barrowref24_line.l1 k y0 y1 y2 y3 y4 y5 y6 y7 y8 y9) (barrowref24_line.l1 (k + 1) y0 y1 y2 y3 y4 y5 y6 y7 y8 y9))
 | 0 => ⟨fun _ _ _ _ _ _ _ _ _ _ r h => by simp [barrowref24_line.l0] at h, fun _ _ _ _ _ _ _ _ _ _ r h => by simp [barrowref24_line.l1] at h⟩
 | k + 1 => by
  obtain ⟨ih0, ih1⟩ := barrowref24_line.mono_l k
  refine ⟨?_, ?_⟩
  ·intro y0 y1 y2 y3 y4 y5 y6 y7 y8 y9
   unfold barrowref24_line.l0
   repeat' first
   | (with_reducible exact ih0 _ _ _ _ _ _ _ _ _ _)
   | (with_reducible exact ih1 _ _ _ _ _ _ _ _ _ _)
   | (with_reducible exact barrowref24_number.mono _ _ _)
   | (with_reducible exact barrowref24_sku.mono _ _ _)
   | (with_reducible exact LeO.refl _)
   | (with_reducible exact LeO.none _)
   | (with_reducible refine LeO.ite ?_ ?_)
   | (with_reducible refine LeO.bind ?_ (fun _ => ?_))
   | exact ih0 _ _ _ _ _ _ _ _ _ _
   | exact ih1 _ _ _ _ _ _ _ _ _ _
   | exact barrowref24_number.mono _ _ _
   | exact barrowref24_sku.mono _ _ _
   | exact LeO.none _
   | refine LeO.ite ?_ ?_
   | refine LeO.bind ?_ (fun _ => ?_)
  ·intro y0 y1 y2 y3 y4 y5 y6 y7 y8 y9
   unfold barrowref24_line.l1
   repeat' first
   | (with_reducible exact ih0 _ _ _ _ _ _ _ _ _ _)
   | (with_reducible exact ih1 _ _ _ _ _ _ _ _ _ _)
   | (with_reducible exact barrowref24_number.mono _ _ _)
   | (with_reducible exact barrowref24_sku.mono _ _ _)
   | (with_reducible exact LeO.refl _)
   | (with_reducible exact LeO.none _)
   | (with_reducible refine LeO.ite ?_ ?_)
   | (with_reducible refine LeO.bind ?_ (fun _ => ?_))
   | exact ih0 _ _ _ _ _ _ _ _ _ _
   | exact ih1 _ _ _ _ _ _ _ _ _ _
   | exact barrowref24_number.mono _ _ _
   | exact barrowref24_sku.mono _ _ _
   | exact LeO.none _
   | refine LeO.ite ?_ ?_
   | refine LeO.bind ?_ (fun _ => ?_)
theorem barrowref24_line.mono : ∀ a0 a1 a2 a3 a4 a5 a6 a7 k, LeO (barrowref24_line.f k a0 a1 a2 a3 a4 a5 a6 a7) (barrowref24_line.f (k + 1) a0 a1 a2 a3 a4 a5 a6 a7) := by
 intro a0 a1 a2 a3 a4 a5 a6 a7 k
 obtain ⟨ih0, ih1⟩ := barrowref24_line.mono_l k
 unfold barrowref24_line.f
 repeat' first
   | (with_reducible exact ih0 _ _ _ _ _ _ _ _ _ _)
   | (with_reducible exact ih1 _ _ _ _ _ _ _ _ _ _)
   | (with_reducible exact barrowref24_number.mono _ _ _)
   | (with_reducible exact barrowref24_sku.mono _ _ _)
   | (with_reducible exact LeO.refl _)
   | (with_reducible exact LeO.none _)
   | (with_reducible refine LeO.ite ?_ ?_)
   | (with_reducible refine LeO.bind ?_ (fun _ => ?_))
   | exact ih0 _ _ _ _ _ _ _ _ _ _
   | exact ih1 _ _ _ _ _ _ _ _ _ _
   | exact barrowref24_number.mono _ _ _
   | exact barrowref24_sku.mono _ _ _
   | exact LeO.none _
   | refine LeO.ite ?_ ?_
   | refine LeO.bind ?_ (fun _ => ?_)
def barrowref24_line.T13 : Bool × List (List Nat × List Nat) := (true, [([], []), ([], []), ([], []), ([], []), ([2, 3], [2, 3]), ([1, 4], [1, 4]), ([0, 5, 5], [0, 5]), ([6, 6, 0, 1, 2, 3, 4, 5, 6], [0, 6])])
def barrowref24_line.B13 : List Nat := [0, 0, 0, 0, 12, 30, 63, 127]
theorem barrowref24_line.tab13 : rtab .any (opsOf Tryd.f34 13) = barrowref24_line.T13 := by kernel_rfl
theorem barrowref24_line.bits13 : waitsOk barrowref24_line.T13.2 barrowref24_line.B13 = true := by kernel_rfl
set_option maxHeartbeats 8000000 in
set_option maxRecDepth 100000 in
theorem barrowref24_line.calls (k : Nat) (P0_ : Nat → Prop) (u9000_ : Value) (l0 : List Int) (a1_0 : Int) (a1_1 : Int) (a1_2 : Int) (a1_3 : Int) (a1_4 : ByteArray) (a1_5 : Int) (a1_6 : Int) (r : List Int) (w0 w : World) (hB : Below w0.heap.size w0 w) (ho0 : Kd.R (Kd.int .u8) 5 w w0.heap.size P0_ u9000_ l0) (h : barrowref24_line.f k l0 a1_0 a1_1 a1_2 a1_3 a1_4 a1_5 a1_6 = some r) :
  Calls Tryd.prog 34 #[u9000_, .agg #[.int .i64 a1_0, .int .i64 a1_1, .int .i64 a1_2, .int .i64 a1_3, .string a1_4, .int .i64 a1_5, .int .i64 a1_6]] w fun e w' => ∃ v0_ : Value, e = .returned (v0_) ∧ Kd.R (Kd.int .u8) 5 w' w0.heap.size (fun k_ => (P0_ k_ ∨ w.heap.size ≤ k_)) v0_ r ∧ Below w0.heap.size w0 w' ∧ Kept w w' (fun k_ => P0_ k_) := by
 have hu29 := Tryd.underlying29
 have HO0 := Aside0.mk (show Kd.R (Kd.int .u8) 5 w w0.heap.size (fun k_ => (P0_ k_ ∨ w.heap.size ≤ k_)) u9000_ l0 from Kd.R_mono ho0 (fun k_ hk => (.inl hk)))
 have HK := Aside0.mk (Kept.refl w (fun k_ => P0_ k_))
 have HW0 := Aside0.mk hB.size
 have HB := Aside0.mk hB
 clear hB
 have H : ((barrowref24_word.f a1_0).bind fun t277 => (barrowref24_line.l0 k l0 t277 0 a1_0 a1_1 a1_2 a1_3 a1_4 a1_5 a1_6)) = some r := h
 clear h
 replace H := Option.bind_eq_some_iff.mp H
 obtain ⟨t277, A30, H⟩ := H
 replace H : (barrowref24_line.l0 k l0 t277 0 a1_0 a1_1 a1_2 a1_3 a1_4 a1_5 a1_6) = some r := H
 have A3 := Aside0.mk A30
 clear A30
 have H' := Aside0.mk H
 clear H
 go_enter Tryd.func34, Tryd.ntmps34
 go_wp2_with (first | ((with_reducible refine gate_dst (N := 3) rfl ?_); refine box_event ?hg (N := 3) ?hd (cs := #[.int .i64 a1_0, .int .i64 a1_1, .int .i64 a1_2, .int .i64 a1_3, .string a1_4, .int .i64 a1_5, .int .i64 a1_6]) (t := 29) ?hr ?_; (case hd => rfl); (case hg => rfl); (case hr => first | (go_simp; done) | (go_simp; rfl)); intro gb276 hg w4 hbox hb; have n0_ := Aside0.mk (Kd.R_below (by (with_reducible repeat (first | apply Kd.R_alloc | apply Kd.R_drewN | apply Kd.R_drew)); exact HO0.out) hb); have n1_ := Aside0.mk (Kept.below (S := (fun k_ => P0_ k_)) (by repeat (first | (with_reducible first | exact HK.out | apply Kept.alloc | apply Kept.drewN | apply Kept.drew) | exact HK.out)) hb); have n2_ := Aside0.mk (below_step (by repeat (first | (with_reducible first | exact HB.out | apply below_alloc | apply pw_below_drewN | apply below_drew1) | exact HB.out)) hb); have n3_ := Aside0.mk (hbox); have n4_ := Aside0.mk ((by rw [hg]; exact (by first | exact HK.out.1 | exact (show Kept w _ (fun k_ => P0_ k_) from by repeat (first | (with_reducible first | exact HK.out | apply Kept.alloc | apply Kept.drewN | apply Kept.drew) | exact HK.out)).1) : w.heap.size ≤ gb276)); have n5_ := Aside0.mk ((by rw [hg]; exact (below_size (by repeat (first | (with_reducible first | exact HB.out | apply below_alloc | apply pw_below_drewN | apply below_drew1) | exact HB.out))) : w0.heap.size ≤ gb276)); clear HO0; clear HK; clear HB; have HO0 := n0_; have HK := n1_; have HB := n2_; have BK276 := n3_; have GW276 := n4_; have GE276 := n5_; clear n0_ n1_ n2_ n3_ n4_ n5_; clear hb hbox hg; have hcz5_0 : w4.cell? ⟨gb276, 0, none⟩ = some (.int .i64 a1_0) := (blk_cell BK276.out 0).trans rfl; have hcz5_1 : w4.cell? ⟨gb276, 1, none⟩ = some (.int .i64 a1_1) := (blk_cell BK276.out 1).trans rfl; have hcz5_2 : w4.cell? ⟨gb276, 2, none⟩ = some (.int .i64 a1_2) := (blk_cell BK276.out 2).trans rfl; have hcz5_3 : w4.cell? ⟨gb276, 3, none⟩ = some (.int .i64 a1_3) := (blk_cell BK276.out 3).trans rfl; have hcz5_4 : w4.cell? ⟨gb276, 4, none⟩ = some (.string a1_4) := (blk_cell BK276.out 4).trans rfl; have hcz5_5 : w4.cell? ⟨gb276, 5, none⟩ = some (.int .i64 a1_5) := (blk_cell BK276.out 5).trans rfl; have hcz5_6 : w4.cell? ⟨gb276, 6, none⟩ = some (.int .i64 a1_6) := (blk_cell BK276.out 6).trans rfl; have hfz5_0 := blk_frozen BK276.out 0; have hfz5_1 := blk_frozen BK276.out 1; have hfz5_2 := blk_frozen BK276.out 2; have hfz5_3 := blk_frozen BK276.out 3; have hfz5_4 := blk_frozen BK276.out 4; have hfz5_5 := blk_frozen BK276.out 5; have hfz5_6 := blk_frozen BK276.out 6) | ((with_reducible refine gate_callee (f := 52) rfl ?_); refine goesL_ (some 11) rfl rfl Tryd.func52 (by kernel_rfl) rfl #[.int .i64 a1_0] rfl (by (try simp only [List.map_toArray, List.map_cons, List.map_nil]); first | done | rfl | (simp only [List.length_drop, List.length_take]; rfl)) ?_; (with_reducible refine (barrowref24_word.calls a1_0 t277 _ A3.out).mono ?_); rintro e w6 ⟨rfl, hb⟩; refine ⟨_, rfl, ?_⟩; have n0_ := Aside0.mk (Kd.R_below (by (with_reducible repeat (first | apply Kd.R_alloc | apply Kd.R_drewN | apply Kd.R_drew)); exact HO0.out) hb); have n1_ := Aside0.mk (blk_below (g := gb276) (o := .cells #[.int .i64 a1_0, .int .i64 a1_1, .int .i64 a1_2, .int .i64 a1_3, .string a1_4, .int .i64 a1_5, .int .i64 a1_6] 29 (0, 0)) (by (with_reducible repeat (first | refine blk_drewN ?_ _ | refine blk_drew ?_ | refine blk_alloc ?_ _)); exact BK276.out) hb); have n2_ := Aside0.mk (Kept.below (S := (fun k_ => P0_ k_)) (by repeat (first | (with_reducible first | exact HK.out | apply Kept.alloc | apply Kept.drewN | apply Kept.drew | refine Kept.setCell ?_ (.inr GW276.out) _) | exact HK.out)) hb); have n3_ := Aside0.mk (below_step (by repeat (first | (with_reducible first | exact HB.out | apply below_alloc | apply pw_below_drewN | apply below_drew1 | refine below_set ?_ GE276.out) | exact HB.out)) hb); clear HO0; clear BK276; clear HK; clear HB; have HO0 := n0_; have BK276 := n1_; have HK := n2_; have HB := n3_; clear n0_ n1_ n2_ n3_; (try clear hb); (try clear hb2); (try clear hk); (try clear hi)))
 go_loopg [0, 6] k (fun kq v0 v6 w' => ∃ (x0_1 : List Int) (x6_1 : Int), v6 = .int .i64 x6_1 ∧ Aside0 (barrowref24_line.l0 kq x0_1 t277 x6_1 a1_0 a1_1 a1_2 a1_3 a1_4 a1_5 a1_6 = some r) ∧ Aside0 (kq ≤ k) ∧ Aside0 (Kd.R (Kd.int .u8) 5 w' w0.heap.size (fun k_ => (P0_ k_ ∨ w.heap.size ≤ k_)) v0 x0_1) ∧ Aside0 (w'.heap[gb276]? = some (.cells #[.int .i64 a1_0, .int .i64 a1_1, .int .i64 a1_2, .int .i64 a1_3, .string a1_4, .int .i64 a1_5, .int .i64 a1_6] 29 (0, 0))) ∧ Aside0 (Kept w w' (fun k_ => P0_ k_)) ∧ Aside0 (Below w0.heap.size w0 w'))
 case atStart => exact ⟨(l0), (0), (by first | rfl | (simp; done) | (simp [*]; done)), H', ⟨Nat.le_refl _⟩, ⟨by (with_reducible repeat (first | apply Kd.R_alloc | apply Kd.R_drewN | apply Kd.R_drew)); exact HO0.out⟩, ⟨by (with_reducible repeat (first | refine blk_drewN ?_ _ | refine blk_drew ?_ | refine blk_alloc ?_ _)); exact BK276.out⟩, ⟨by repeat (first | (with_reducible first | exact HK.out | apply Kept.alloc | apply Kept.drewN | apply Kept.drew | refine Kept.setCell ?_ (.inr GW276.out) _) | exact HK.out)⟩, ⟨by repeat (first | (with_reducible first | exact HB.out | apply below_alloc | apply pw_below_drewN | apply below_drew1 | refine below_set ?_ GE276.out) | exact HB.out)⟩⟩
 case round =>
  clear H'
  try clear p2
  try clear c3
  try clear c5
  try clear hcz5_0
  try clear hcz5_1
  try clear hcz5_2
  try clear hcz5_3
  try clear hcz5_4
  try clear hcz5_5
  try clear hcz5_6
  try clear hfz5_0
  try clear hfz5_1
  try clear hfz5_2
  try clear hfz5_3
  try clear hfz5_4
  try clear hfz5_5
  try clear hfz5_6
  obtain ⟨x0_1, x6_1, rfl, HA, HK1, HO_0, BK276, HK, HB⟩ := hrel
  cases gk with
  | zero => exact absurd HA.out (by simp [barrowref24_line.l0])
  | succ k1 =>
   have H := HA.out
   clear HA
   simp only [barrowref24_line.l0] at H
   by_cases c7 : x6_1 < (t277.size : Int)
   ·rw [if_pos c7] at H
    have c7b0 : decide (x6_1 < (t277.size : Int)) = true := decide_eq_true c7
    clear c7
    by_cases c8 : 0 ≤ x6_1
    ·rw [if_pos c8] at H
     have c8b0 : decide (0 ≤ x6_1) = true := decide_eq_true c8
     clear c8
     by_cases c10 : x0_1.length < 140737488355328
     ·rw [if_pos c10] at H
      have LMc10 := Aside0.mk c10
      clear c10
      obtain ⟨y278, hy278⟩ : ∃ y_ : List Int, y_ = (x0_1 ++ [bt t277 x6_1]) := ⟨_, rfl⟩
      replace H : (barrowref24_line.l0 k1 y278 t277 (wrap64 (x6_1 + 1)) a1_0 a1_1 a1_2 a1_3 a1_4 a1_5 a1_6) = some r := by first | (rw [hy278]; with_reducible exact H) | (have H2_ := (Option.bind_some _ _).symm.trans H; rw [hy278]; with_reducible exact H2_) | (have H2_ := (Option.bind_some _ _).symm.trans H; with_reducible exact H2_) | with_reducible exact H | (rw [hy278]; exact H) | exact H
      have Ny278 := Aside0.mk hy278
      clear hy278
      have H' := Aside0.mk H
      clear H
      have p9 : 0 ≤ (x6_1 : Int) := of_decide_eq_true (by first | (with_reducible assumption) | assumption)
      have q9 : x6_1 < (t277.size : Int) := of_decide_eq_true (by first | (with_reducible assumption) | assumption)
      have hx9 := bt_at t277 x6_1
      replace p9 := eq_true p9
      replace q9 := eq_true q9
      go_wp2_with (first | ((with_reducible refine gate_builtin (b := .append) (xs := #[.tmp 18, .tmp 22]) rfl ?_); at_builtin; refine Kd.R_append (Kd.int .u8) (w0 := w0) w0.heap.size rfl (.tmp 18) (.tmp 22) 48 5 (.int .u8 0) 1 rfl Tryd.underlying48 info5 rfl (by decide) (by omega) u0 x0_1 (bt t277 x6_1) [.int .u8 (bt t277 x6_1)] (fun k_ => (P0_ k_ ∨ w.heap.size ≤ k_)) (fun _ => False) rfl rfl ?aP (fun _ hk => hk.elim) ?aF ?aO ?aB ?aS ?aL ?_; (case aP => exact rfl); (case aB => exact (by repeat (first | (with_reducible first | exact HB.out | apply below_alloc | apply pw_below_drewN | apply below_drew1 | refine below_set ?_ GE276.out) | exact HB.out))); (case aF => exact (fun k_ hk => (.inr (Nat.le_trans (by first | exact HK.out.1 | exact (show Kept w _ (fun k_ => P0_ k_) from by repeat (first | (with_reducible first | exact HK.out | apply Kept.alloc | apply Kept.drewN | apply Kept.drew | refine Kept.setCell ?_ (.inr GW276.out) _) | exact HK.out)).1) hk)))); (case aO => exact (by (with_reducible repeat (first | apply Kd.R_alloc | apply Kd.R_drewN | apply Kd.R_drew)); exact HO_0.out)); (case aS => exact (below_size (by repeat (first | (with_reducible first | exact HB.out | apply below_alloc | apply pw_below_drewN | apply below_drew1 | refine below_set ?_ GE276.out) | exact HB.out)))); (case aL => have := LMc10.out; omega); intro v279 w11 ho hb hg hat; rw [← Ny278.out] at ho; have n0_ := Aside0.mk (blk_grown (g := gb276) (o := .cells #[.int .i64 a1_0, .int .i64 a1_1, .int .i64 a1_2, .int .i64 a1_3, .string a1_4, .int .i64 a1_5, .int .i64 a1_6] 29 (0, 0)) (by (with_reducible repeat (first | refine blk_drewN ?_ _ | refine blk_drew ?_ | refine blk_alloc ?_ _)); exact BK276.out) hg (Kd.R_ne HO_0.out BK276.out (by decide))); have n1_ := Aside0.mk (hb); have n2_ := Aside0.mk (Kept.of_grown (S := (fun k_ => P0_ k_)) hg (by repeat (first | (with_reducible first | exact HK.out | apply Kept.alloc | apply Kept.drewN | apply Kept.drew | refine Kept.setCell ?_ (.inr GW276.out) _) | exact HK.out)) (fun k_ e_ => (HO_0.out.1 k_ e_))); have n3_ := Aside0.mk (ho); clear BK276; clear HB; clear HK; clear HO_0; have BK276 := n0_; have HB := n1_; have HK := n2_; have HO280 := n3_; clear n0_ n1_ n2_ n3_; clear ho hb hg hat))
      go_roundg k1
      case measure => have := HK1.out; omega
      case rel => exact ⟨(y278), (wrap64 (x6_1 + 1)), (by first | rfl | (simp; done) | (simp [*]; done)), H', ⟨by have := HK1.out; omega⟩, ⟨by (with_reducible repeat (first | apply Kd.R_alloc | apply Kd.R_drewN | apply Kd.R_drew)); exact HO280.out⟩, ⟨by (with_reducible repeat (first | refine blk_drewN ?_ _ | refine blk_drew ?_ | refine blk_alloc ?_ _)); exact BK276.out⟩, ⟨by repeat (first | (with_reducible first | exact HK.out | apply Kept.alloc | apply Kept.drewN | apply Kept.drew | refine Kept.setCell ?_ (.inr GW276.out) _) | exact HK.out)⟩, ⟨by repeat (first | (with_reducible first | exact HB.out | apply below_alloc | apply pw_below_drewN | apply below_drew1 | refine below_set ?_ GE276.out) | exact HB.out)⟩⟩
     ·rw [if_neg c10] at H
      exact absurd H (by simp)
    ·rw [if_neg c8] at H
     exact absurd H (by simp)
   ·rw [if_neg c7] at H
    have c7b0 : decide (x6_1 < (t277.size : Int)) = false := decide_eq_false c7
    clear c7
    replace H := Option.bind_eq_some_iff.mp H
    obtain ⟨t281, A120, H⟩ := H
    replace H : (barrowref24_line.l1 k1 x0_1 t281 0 a1_0 a1_1 a1_2 a1_3 a1_4 a1_5 a1_6) = some r := H
    have A12 := Aside0.mk A120
    clear A120
    have H' := Aside0.mk H
    clear H
    have hcz13_0 : wr.cell? ⟨gb276, 0, none⟩ = some (.int .i64 a1_0) := (blk_cell BK276.out 0).trans rfl
    have hcz13_1 : wr.cell? ⟨gb276, 1, none⟩ = some (.int .i64 a1_1) := (blk_cell BK276.out 1).trans rfl
    have hcz13_2 : wr.cell? ⟨gb276, 2, none⟩ = some (.int .i64 a1_2) := (blk_cell BK276.out 2).trans rfl
    have hcz13_3 : wr.cell? ⟨gb276, 3, none⟩ = some (.int .i64 a1_3) := (blk_cell BK276.out 3).trans rfl
    have hcz13_4 : wr.cell? ⟨gb276, 4, none⟩ = some (.string a1_4) := (blk_cell BK276.out 4).trans rfl
    have hcz13_5 : wr.cell? ⟨gb276, 5, none⟩ = some (.int .i64 a1_5) := (blk_cell BK276.out 5).trans rfl
    have hcz13_6 : wr.cell? ⟨gb276, 6, none⟩ = some (.int .i64 a1_6) := (blk_cell BK276.out 6).trans rfl
    have hfz13_0 := blk_frozen BK276.out 0
    have hfz13_1 := blk_frozen BK276.out 1
    have hfz13_2 := blk_frozen BK276.out 2
    have hfz13_3 := blk_frozen BK276.out 3
    have hfz13_4 := blk_frozen BK276.out 4
    have hfz13_5 := blk_frozen BK276.out 5
    have hfz13_6 := blk_frozen BK276.out 6
    go_wp2_with (first | ((with_reducible refine gate_callee (f := 44) rfl ?_); refine goesL_ (some 26) rfl rfl Tryd.func44 (by kernel_rfl) rfl #[.int .i64 a1_0] rfl (by (try simp only [List.map_toArray, List.map_cons, List.map_nil]); first | done | rfl | (simp only [List.length_drop, List.length_take]; rfl)) ?_; (with_reducible refine (barrowref24_shape.calls a1_0 t281 _ A12.out).mono ?_); rintro e w14 ⟨rfl, hb⟩; refine ⟨_, rfl, ?_⟩; have n0_ := Aside0.mk (Kd.R_below (by (with_reducible repeat (first | apply Kd.R_alloc | apply Kd.R_drewN | apply Kd.R_drew)); exact HO_0.out) hb); have n1_ := Aside0.mk (blk_below (g := gb276) (o := .cells #[.int .i64 a1_0, .int .i64 a1_1, .int .i64 a1_2, .int .i64 a1_3, .string a1_4, .int .i64 a1_5, .int .i64 a1_6] 29 (0, 0)) (by (with_reducible repeat (first | refine blk_drewN ?_ _ | refine blk_drew ?_ | refine blk_alloc ?_ _)); exact BK276.out) hb); have n2_ := Aside0.mk (Kept.below (S := (fun k_ => P0_ k_)) (by repeat (first | (with_reducible first | exact HK.out | apply Kept.alloc | apply Kept.drewN | apply Kept.drew | refine Kept.setCell ?_ (.inr GW276.out) _) | exact HK.out)) hb); have n3_ := Aside0.mk (below_step (by repeat (first | (with_reducible first | exact HB.out | apply below_alloc | apply pw_below_drewN | apply below_drew1 | refine below_set ?_ GE276.out) | exact HB.out)) hb); clear HO_0; clear BK276; clear HK; clear HB; have HO_0 := n0_; have BK276 := n1_; have HK := n2_; have HB := n3_; clear n0_ n1_ n2_ n3_; (try clear hb); (try clear hb2); (try clear hk); (try clear hi)))
    go_loopg [0, 8] k1 (fun kq v0 v8 w' => ∃ (x0_2 : List Int) (x8_2 : Int), v8 = .int .i64 x8_2 ∧ Aside0 (barrowref24_line.l1 kq x0_2 t281 x8_2 a1_0 a1_1 a1_2 a1_3 a1_4 a1_5 a1_6 = some r) ∧ Aside0 (kq ≤ k1) ∧ Aside0 (Kd.R (Kd.int .u8) 5 w' w0.heap.size (fun k_ => (P0_ k_ ∨ w.heap.size ≤ k_)) v0 x0_2) ∧ Aside0 (w'.heap[gb276]? = some (.cells #[.int .i64 a1_0, .int .i64 a1_1, .int .i64 a1_2, .int .i64 a1_3, .string a1_4, .int .i64 a1_5, .int .i64 a1_6] 29 (0, 0))) ∧ Aside0 (Kept w w' (fun k_ => P0_ k_)) ∧ Aside0 (Below w0.heap.size w0 w'))
    case atStart => exact ⟨(x0_1), (0), (by first | rfl | (simp; done) | (simp [*]; done)), H', ⟨Nat.le_refl _⟩, ⟨by (with_reducible repeat (first | apply Kd.R_alloc | apply Kd.R_drewN | apply Kd.R_drew)); exact HO_0.out⟩, ⟨by (with_reducible repeat (first | refine blk_drewN ?_ _ | refine blk_drew ?_ | refine blk_alloc ?_ _)); exact BK276.out⟩, ⟨by repeat (first | (with_reducible first | exact HK.out | apply Kept.alloc | apply Kept.drewN | apply Kept.drew | refine Kept.setCell ?_ (.inr GW276.out) _) | exact HK.out)⟩, ⟨by repeat (first | (with_reducible first | exact HB.out | apply below_alloc | apply pw_below_drewN | apply below_drew1 | refine below_set ?_ GE276.out) | exact HB.out)⟩⟩
    case round =>
     clear H'
     try clear c1
     try clear p2
     try clear c3
     try clear c4
     try clear c5
     try clear p6
     try clear c7
     try clear c7b0
     try clear c8
     try clear c8b0
     try clear p9
     try clear q9
     try clear hx9
     try clear c10
     try clear hcz13_0
     try clear hcz13_1
     try clear hcz13_2
     try clear hcz13_3
     try clear hcz13_4
     try clear hcz13_5
     try clear hcz13_6
     try clear hcz5_0
     try clear hcz5_1
     try clear hcz5_2
     try clear hcz5_3
     try clear hcz5_4
     try clear hcz5_5
     try clear hcz5_6
     try clear hfz13_0
     try clear hfz13_1
     try clear hfz13_2
     try clear hfz13_3
     try clear hfz13_4
     try clear hfz13_5
     try clear hfz13_6
     try clear hfz5_0
     try clear hfz5_1
     try clear hfz5_2
     try clear hfz5_3
     try clear hfz5_4
     try clear hfz5_5
     try clear hfz5_6
     try clear p2
     try clear p9
     try clear q9
     obtain ⟨x0_2, x8_2, rfl, HA, HK2, HO_0, BK276, HK, HB⟩ := hrel
     cases gk with
     | zero => exact absurd HA.out (by simp [barrowref24_line.l1])
     | succ k2 =>
      have H := HA.out
      clear HA
      simp only [barrowref24_line.l1] at H
      by_cases c15 : x8_2 < (t281.size : Int)
      ·rw [if_pos c15] at H
       have c15b0 : decide (x8_2 < (t281.size : Int)) = true := decide_eq_true c15
       clear c15
       by_cases c16 : x0_2.length < 140737488355328
       ·rw [if_pos c16] at H
        have LMc16 := Aside0.mk c16
        clear c16
        obtain ⟨y282, hy282⟩ : ∃ y_ : List Int, y_ = (x0_2 ++ [32]) := ⟨_, rfl⟩
        replace H : (if 0 ≤ x8_2 then (if (bt t281 x8_2) = 83 then ((barrowref24_sku.f k2 y282 a1_4).bind fun t285 => (barrowref24_line.l1 k2 t285 t281 (wrap64 (x8_2 + 1)) a1_0 a1_1 a1_2 a1_3 a1_4 a1_5 a1_6)) else ((barrowref24_get.f a1_0 a1_1 a1_2 a1_3 a1_4 a1_5 a1_6 (bt t281 x8_2)).bind fun t288 => ((barrowref24_number.f k2 y282 t288).bind fun t289 => (barrowref24_line.l1 k2 t289 t281 (wrap64 (x8_2 + 1)) a1_0 a1_1 a1_2 a1_3 a1_4 a1_5 a1_6)))) else (none)) = some r := by first | (rw [hy282]; with_reducible exact H) | (have H2_ := (Option.bind_some _ _).symm.trans H; rw [hy282]; with_reducible exact H2_) | (have H2_ := (Option.bind_some _ _).symm.trans H; with_reducible exact H2_) | with_reducible exact H | (rw [hy282]; exact H) | exact H
        have Ny282 := Aside0.mk hy282
        clear hy282
        by_cases c17 : 0 ≤ x8_2
        ·rw [if_pos c17] at H
         have c17b0 : decide (0 ≤ x8_2) = true := decide_eq_true c17
         clear c17
         by_cases c19 : (bt t281 x8_2) = 83
         ·rw [if_pos c19] at H
          have c19b0 : ((bt t281 x8_2) == 83) = true := beq_iff_eq.mpr c19
          have c19b1 : ((bt t281 x8_2) != 83) = false := bne_eq_false_iff_eq.mpr c19
          clear c19
          replace H := Option.bind_eq_some_iff.mp H
          obtain ⟨t285, A200, H⟩ := H
          replace H : (barrowref24_line.l1 k2 t285 t281 (wrap64 (x8_2 + 1)) a1_0 a1_1 a1_2 a1_3 a1_4 a1_5 a1_6) = some r := H
          have A20 := Aside0.mk A200
          clear A200
          have H' := Aside0.mk H
          clear H
          go_wp2_with (first | ((with_reducible refine gate_builtin (b := .append) (xs := #[.tmp 33, .tmp 34]) rfl ?_); at_builtin; refine Kd.R_append (Kd.int .u8) (w0 := w0) w0.heap.size rfl (.tmp 33) (.tmp 34) 48 5 (.int .u8 0) 1 rfl Tryd.underlying48 info5 rfl (by decide) (by omega) u0 x0_2 32 [.int .u8 32] (fun k_ => (P0_ k_ ∨ w.heap.size ≤ k_)) (fun _ => False) rfl rfl ?aP (fun _ hk => hk.elim) ?aF ?aO ?aB ?aS ?aL ?_; (case aP => exact rfl); (case aB => exact (by repeat (first | (with_reducible first | exact HB.out | apply below_alloc | apply pw_below_drewN | apply below_drew1 | refine below_set ?_ GE276.out) | exact HB.out))); (case aF => exact (fun k_ hk => (.inr (Nat.le_trans (by first | exact HK.out.1 | exact (show Kept w _ (fun k_ => P0_ k_) from by repeat (first | (with_reducible first | exact HK.out | apply Kept.alloc | apply Kept.drewN | apply Kept.drew | refine Kept.setCell ?_ (.inr GW276.out) _) | exact HK.out)).1) hk)))); (case aO => exact (by (with_reducible repeat (first | apply Kd.R_alloc | apply Kd.R_drewN | apply Kd.R_drew)); exact HO_0.out)); (case aS => exact (below_size (by repeat (first | (with_reducible first | exact HB.out | apply below_alloc | apply pw_below_drewN | apply below_drew1 | refine below_set ?_ GE276.out) | exact HB.out)))); (case aL => have := LMc16.out; omega); intro v283 w21 ho hb hg hat; rw [← Ny282.out] at ho; have n0_ := Aside0.mk (blk_grown (g := gb276) (o := .cells #[.int .i64 a1_0, .int .i64 a1_1, .int .i64 a1_2, .int .i64 a1_3, .string a1_4, .int .i64 a1_5, .int .i64 a1_6] 29 (0, 0)) (by (with_reducible repeat (first | refine blk_drewN ?_ _ | refine blk_drew ?_ | refine blk_alloc ?_ _)); exact BK276.out) hg (Kd.R_ne HO_0.out BK276.out (by decide))); have n1_ := Aside0.mk (hb); have n2_ := Aside0.mk (Kept.of_grown (S := (fun k_ => P0_ k_)) hg (by repeat (first | (with_reducible first | exact HK.out | apply Kept.alloc | apply Kept.drewN | apply Kept.drew | refine Kept.setCell ?_ (.inr GW276.out) _) | exact HK.out)) (fun k_ e_ => (HO_0.out.1 k_ e_))); have n3_ := Aside0.mk (ho); clear BK276; clear HB; clear HK; clear HO_0; have BK276 := n0_; have HB := n1_; have HK := n2_; have HO284 := n3_; clear n0_ n1_ n2_ n3_; clear ho hb hg hat; have p18 : 0 ≤ (x8_2 : Int) := of_decide_eq_true (by first | (with_reducible assumption) | assumption); have q18 : x8_2 < (t281.size : Int) := of_decide_eq_true (by first | (with_reducible assumption) | assumption); have hx18 := bt_at t281 x8_2; replace p18 := eq_true p18; replace q18 := eq_true q18; have hcz22_0 : w21.cell? ⟨gb276, 0, none⟩ = some (.int .i64 a1_0) := (blk_cell BK276.out 0).trans rfl; have hcz22_1 : w21.cell? ⟨gb276, 1, none⟩ = some (.int .i64 a1_1) := (blk_cell BK276.out 1).trans rfl; have hcz22_2 : w21.cell? ⟨gb276, 2, none⟩ = some (.int .i64 a1_2) := (blk_cell BK276.out 2).trans rfl; have hcz22_3 : w21.cell? ⟨gb276, 3, none⟩ = some (.int .i64 a1_3) := (blk_cell BK276.out 3).trans rfl; have hcz22_4 : w21.cell? ⟨gb276, 4, none⟩ = some (.string a1_4) := (blk_cell BK276.out 4).trans rfl; have hcz22_5 : w21.cell? ⟨gb276, 5, none⟩ = some (.int .i64 a1_5) := (blk_cell BK276.out 5).trans rfl; have hcz22_6 : w21.cell? ⟨gb276, 6, none⟩ = some (.int .i64 a1_6) := (blk_cell BK276.out 6).trans rfl; have hfz22_0 := blk_frozen BK276.out 0; have hfz22_1 := blk_frozen BK276.out 1; have hfz22_2 := blk_frozen BK276.out 2; have hfz22_3 := blk_frozen BK276.out 3; have hfz22_4 := blk_frozen BK276.out 4; have hfz22_5 := blk_frozen BK276.out 5; have hfz22_6 := blk_frozen BK276.out 6; obtain ⟨Ao23, co23, eo23⟩ := Kd.R_slice HO284.out; subst eo23) | ((with_reducible refine gate_callee (f := 53) rfl ?_); refine goesL_ (some 43) rfl rfl Tryd.func53 (by kernel_rfl) rfl #[.slice Ao23 y282.length co23, .string a1_4] rfl (by (try simp only [List.map_toArray, List.map_cons, List.map_nil]); first | done | rfl | (simp only [List.length_drop, List.length_take]; rfl)) ?_; (with_reducible refine (barrowref24_sku.calls k2 (fun k_ => some k_ = (.slice Ao23 y282.length co23 : Value).ownBlock) (.slice Ao23 y282.length co23) y282 a1_4 t285 w0 _ ?side1 ?side2 A20.out).mono ?_); (case side1 => repeat (first | (with_reducible first | exact HB.out | apply below_alloc | apply pw_below_drewN | apply below_drew1 | refine below_set ?_ GE276.out) | exact HB.out)); (case side2 => exact Kd.R_tight rfl HO284.out); rintro e w24 ⟨v286, rfl, ho0, hb, hkp⟩; refine ⟨_, rfl, ?_⟩; have n0_ := Aside0.mk (blk_kept (by (with_reducible repeat (first | refine blk_drewN ?_ _ | refine blk_drew ?_ | refine blk_alloc ?_ _)); exact BK276.out) hkp (fun hs_ => (fun e_ => (Kd.R_ne HO284.out BK276.out (by decide)) e_) hs_)); have n1_ := Aside0.mk (Kd.R_mono (ok' := fun k_ => (P0_ k_ ∨ w.heap.size ≤ k_)) ho0 (fun k_ hk_ => Or.elim hk_ (fun hs_ => (HO284.out.1 k_ (hs_).symm)) (fun hn_ => (.inr (Nat.le_trans (by first | exact HK.out.1 | exact (show Kept w _ (fun k_ => P0_ k_) from by repeat (first | (with_reducible first | exact HK.out | apply Kept.alloc | apply Kept.drewN | apply Kept.drew | refine Kept.setCell ?_ (.inr GW276.out) _) | exact HK.out)).1) hn_))))); have n2_ := Aside0.mk (Kept.then_ (S := (fun k_ => P0_ k_)) (by repeat (first | (with_reducible first | exact HK.out | apply Kept.alloc | apply Kept.drewN | apply Kept.drew | refine Kept.setCell ?_ (.inr GW276.out) _) | exact HK.out)) hkp (fun k_ hs_ => (fun e_ => (HO284.out.1 k_ e_.symm)) hs_)); have n3_ := Aside0.mk (hb); clear BK276; clear HK; clear HB; clear HO284; have BK276 := n0_; have HO287 := n1_; have HK := n2_; have HB := n3_; clear n0_ n1_ n2_ n3_; (try clear hb); (try clear hkp); (try clear ho0)))
          go_roundg k2
          case measure => have := HK1.out; have := HK2.out; omega
          case rel => exact ⟨(t285), (wrap64 (x8_2 + 1)), (by first | rfl | (simp; done) | (simp [*]; done)), H', ⟨by have := HK1.out; have := HK2.out; omega⟩, ⟨by (with_reducible repeat (first | apply Kd.R_alloc | apply Kd.R_drewN | apply Kd.R_drew)); exact HO287.out⟩, ⟨by (with_reducible repeat (first | refine blk_drewN ?_ _ | refine blk_drew ?_ | refine blk_alloc ?_ _)); exact BK276.out⟩, ⟨by repeat (first | (with_reducible first | exact HK.out | apply Kept.alloc | apply Kept.drewN | apply Kept.drew | refine Kept.setCell ?_ (.inr GW276.out) _) | exact HK.out)⟩, ⟨by repeat (first | (with_reducible first | exact HB.out | apply below_alloc | apply pw_below_drewN | apply below_drew1 | refine below_set ?_ GE276.out) | exact HB.out)⟩⟩
         ·rw [if_neg c19] at H
          have c19b0 : ((bt t281 x8_2) == 83) = false := beq_eq_false_iff_ne.mpr c19
          have c19b1 : ((bt t281 x8_2) != 83) = true := bne_iff_ne.mpr c19
          replace H := Option.bind_eq_some_iff.mp H
          obtain ⟨t288, A260, H⟩ := H
          replace H : ((barrowref24_number.f k2 y282 t288).bind fun t289 => (barrowref24_line.l1 k2 t289 t281 (wrap64 (x8_2 + 1)) a1_0 a1_1 a1_2 a1_3 a1_4 a1_5 a1_6)) = some r := H
          have A26 := Aside0.mk A260
          clear A260
          replace H := Option.bind_eq_some_iff.mp H
          obtain ⟨t289, A270, H⟩ := H
          replace H : (barrowref24_line.l1 k2 t289 t281 (wrap64 (x8_2 + 1)) a1_0 a1_1 a1_2 a1_3 a1_4 a1_5 a1_6) = some r := H
          have A27 := Aside0.mk A270
          clear A270
          have H' := Aside0.mk H
          clear H
          try go_wp2_with (first | ((with_reducible refine gate_builtin (b := .append) (xs := #[.tmp 33, .tmp 34]) rfl ?_); at_builtin; refine Kd.R_append (Kd.int .u8) (w0 := w0) w0.heap.size rfl (.tmp 33) (.tmp 34) 48 5 (.int .u8 0) 1 rfl Tryd.underlying48 info5 rfl (by decide) (by omega) u0 x0_2 32 [.int .u8 32] (fun k_ => (P0_ k_ ∨ w.heap.size ≤ k_)) (fun _ => False) rfl rfl ?aP (fun _ hk => hk.elim) ?aF ?aO ?aB ?aS ?aL ?_; (case aP => exact rfl); (case aB => exact (by repeat (first | (with_reducible first | exact HB.out | apply below_alloc | apply pw_below_drewN | apply below_drew1 | refine below_set ?_ GE276.out) | exact HB.out))); (case aF => exact (fun k_ hk => (.inr (Nat.le_trans (by first | exact HK.out.1 | exact (show Kept w _ (fun k_ => P0_ k_) from by repeat (first | (with_reducible first | exact HK.out | apply Kept.alloc | apply Kept.drewN | apply Kept.drew | refine Kept.setCell ?_ (.inr GW276.out) _) | exact HK.out)).1) hk)))); (case aO => exact (by (with_reducible repeat (first | apply Kd.R_alloc | apply Kd.R_drewN | apply Kd.R_drew)); exact HO_0.out)); (case aS => exact (below_size (by repeat (first | (with_reducible first | exact HB.out | apply below_alloc | apply pw_below_drewN | apply below_drew1 | refine below_set ?_ GE276.out) | exact HB.out)))); (case aL => have := LMc16.out; omega); intro v283 w28 ho hb hg hat; rw [← Ny282.out] at ho; have n0_ := Aside0.mk (blk_grown (g := gb276) (o := .cells #[.int .i64 a1_0, .int .i64 a1_1, .int .i64 a1_2, .int .i64 a1_3, .string a1_4, .int .i64 a1_5, .int .i64 a1_6] 29 (0, 0)) (by (with_reducible repeat (first | refine blk_drewN ?_ _ | refine blk_drew ?_ | refine blk_alloc ?_ _)); exact BK276.out) hg (Kd.R_ne HO_0.out BK276.out (by decide))); have n1_ := Aside0.mk (hb); have n2_ := Aside0.mk (Kept.of_grown (S := (fun k_ => P0_ k_)) hg (by repeat (first | (with_reducible first | exact HK.out | apply Kept.alloc | apply Kept.drewN | apply Kept.drew | refine Kept.setCell ?_ (.inr GW276.out) _) | exact HK.out)) (fun k_ e_ => (HO_0.out.1 k_ e_))); have n3_ := Aside0.mk (ho); clear BK276; clear HB; clear HK; clear HO_0; have BK276 := n0_; have HB := n1_; have HK := n2_; have HO284 := n3_; clear n0_ n1_ n2_ n3_; clear ho hb hg hat; have p18 : 0 ≤ (x8_2 : Int) := of_decide_eq_true (by first | (with_reducible assumption) | assumption); have q18 : x8_2 < (t281.size : Int) := of_decide_eq_true (by first | (with_reducible assumption) | assumption); have hx18 := bt_at t281 x8_2; replace p18 := eq_true p18; replace q18 := eq_true q18))
          have n0_ := Aside0.mk (Kd.R_drew HO284.out)
          have n1_ := Aside0.mk (blk_drew BK276.out)
          have n2_ := Aside0.mk (Kept.drew HK.out)
          have n3_ := Aside0.mk (below_drew1 HB.out)
          clear HO284
          clear BK276
          clear HK
          clear HB
          have HO284 := n0_
          have BK276 := n1_
          have HK := n2_
          have HB := n3_
          clear n0_ n1_ n2_ n3_
          have p25 : 0 ≤ (x8_2 : Int) := of_decide_eq_true (by first | (with_reducible assumption) | assumption)
          have q25 : x8_2 < (t281.size : Int) := of_decide_eq_true (by first | (with_reducible assumption) | assumption)
          have hx25 := bt_at t281 x8_2
          replace p25 := eq_true p25
          replace q25 := eq_true q25
          refine start_ (n := 8) (S := fun w' => w'.cell? ⟨gb276, 0, none⟩ = some (.int .i64 a1_0) ∧ w'.cell? ⟨gb276, 1, none⟩ = some (.int .i64 a1_1) ∧ w'.cell? ⟨gb276, 2, none⟩ = some (.int .i64 a1_2) ∧ w'.cell? ⟨gb276, 3, none⟩ = some (.int .i64 a1_3) ∧ w'.cell? ⟨gb276, 4, none⟩ = some (.string a1_4) ∧ w'.cell? ⟨gb276, 5, none⟩ = some (.int .i64 a1_5) ∧ w'.cell? ⟨gb276, 6, none⟩ = some (.int .i64 a1_6)) (ds := []) #[false, false, false, false, false, false, false, false] (by kernel_rfl) rfl rfl ⟨(blk_cell BK276.out 0).trans rfl, (blk_cell BK276.out 1).trans rfl, (blk_cell BK276.out 2).trans rfl, (blk_cell BK276.out 3).trans rfl, (blk_cell BK276.out 4).trans rfl, (blk_cell BK276.out 5).trans rfl, (blk_cell BK276.out 6).trans rfl⟩ (fun hHeld => ?_); refine with_tabW barrowref24_line.tab13 barrowref24_line.bits13 (fun HT_ HW_ => ?_)
          generalize w28.drew = w29 at HO284 BK276 HK HB hHeld ⊢
          refine pure_ (i := 0) (N := some 44) (v := ?_) (a' := ?_) #[true, false, false, false, false, false, false, false] rfl rfl (any_of HT_.out (by kernel_rfl)) (fun _ _ _ h => h) (Or.inl ⟨by rfl, ?_⟩) ?_ ?_
          rotate_left
          ·intro w'
           go_simp
           with_reducible rfl
          rotate_left
          ·simp only [Act.put, List.setIfInBounds_toArray, List.set_cons_zero, List.set_cons_succ, i64_w, i32_w]
           rfl
          refine pure_ (i := 2) (N := some 46) (v := ?_) (a' := ?_) #[true, false, true, false, false, false, false, false] rfl rfl (any_of HT_.out (by kernel_rfl)) (fun _ _ _ h => h) (Or.inl ⟨by rfl, ?_⟩) ?_ ?_
          rotate_left
          ·intro w'
           go_simp
           with_reducible rfl
          rotate_left
          ·simp only [Act.put, List.setIfInBounds_toArray, List.set_cons_zero, List.set_cons_succ, i64_w, i32_w]
           rfl
          refine pure_ (i := 3) (N := some 47) (v := ?_) (a' := ?_) #[true, false, true, true, false, false, false, false] rfl rfl (any_of HT_.out (by kernel_rfl)) (fun _ _ _ h => h) (Or.inl ⟨by rfl, ?_⟩) ?_ ?_
          rotate_left
          ·intro w'
           go_simp
           with_reducible rfl
          rotate_left
          ·simp only [Act.put, List.setIfInBounds_toArray, List.set_cons_zero, List.set_cons_succ, i64_w, i32_w]
           rfl
          refine take_ (i := 1) (N := some 45) (v := ?_) (a' := ?_) #[true, true, true, true, false, false, false, false] rfl rfl (take_ofW HT_.out HW_.out (by kernel_rfl)) (fun _ _ _ h => h) (Or.inl ⟨by rfl, ?_⟩) hHeld ?_ ?_
          rotate_left
          ·rintro w' ⟨s0, s1, s2, s3, s4, s5, s6⟩
           go_simp
           with_reducible rfl
          rotate_left
          ·simp only [Act.put, List.setIfInBounds_toArray, List.set_cons_zero, List.set_cons_succ, i64_w, i32_w]
           rfl
          refine take_ (i := 4) (N := some 48) (v := ?_) (a' := ?_) #[true, true, true, true, true, false, false, false] rfl rfl (take_ofW HT_.out HW_.out (by kernel_rfl)) (fun _ _ _ h => h) (Or.inl ⟨by rfl, ?_⟩) hHeld ?_ ?_
          rotate_left
          ·rintro w' ⟨s0, s1, s2, s3, s4, s5, s6⟩
           go_simp
           with_reducible rfl
          rotate_left
          ·simp only [Act.put, List.setIfInBounds_toArray, List.set_cons_zero, List.set_cons_succ, i64_w, i32_w]
           rfl
          refine one_ (i := 5) (N := some 49) #[true, true, true, true, true, true, false, false] rfl rfl (one_of HT_.out (by kernel_rfl)) (by decide) (fun K hK => ?_)
          refine goes_ Tryd.func46 (by kernel_rfl) rfl #[.agg #[.int .i64 a1_0, .int .i64 a1_1, .int .i64 a1_2, .int .i64 a1_3, .string a1_4, .int .i64 a1_5, .int .i64 a1_6], .int .u8 (bt t281 x8_2)] (by rfl) rfl rfl (by (try simp only [List.map_toArray, List.map_cons, List.map_nil]); first | done | rfl | (simp only [List.length_drop, List.length_take]; rfl)) ?_
          with_reducible refine (barrowref24_get.calls a1_0 a1_1 a1_2 a1_3 a1_4 a1_5 a1_6 (bt t281 x8_2) t288 _ A26.out).mono ?_
          rintro e w30 ⟨rfl, hb⟩
          refine ⟨_, rfl, ?_⟩
          have n0_ := Aside0.mk (Kd.R_below (by (with_reducible repeat (first | apply Kd.R_alloc | apply Kd.R_drewN | apply Kd.R_drew)); exact HO284.out) hb)
          have n1_ := Aside0.mk (blk_below (g := gb276) (o := .cells #[.int .i64 a1_0, .int .i64 a1_1, .int .i64 a1_2, .int .i64 a1_3, .string a1_4, .int .i64 a1_5, .int .i64 a1_6] 29 (0, 0)) (by (with_reducible repeat (first | refine blk_drewN ?_ _ | refine blk_drew ?_ | refine blk_alloc ?_ _)); exact BK276.out) hb)
          have n2_ := Aside0.mk (Kept.below (S := (fun k_ => P0_ k_)) (by repeat (first | (with_reducible first | exact HK.out | apply Kept.alloc | apply Kept.drewN | apply Kept.drew | refine Kept.setCell ?_ (.inr GW276.out) _) | exact HK.out)) hb)
          have n3_ := Aside0.mk (below_step (by repeat (first | (with_reducible first | exact HB.out | apply below_alloc | apply pw_below_drewN | apply below_drew1 | refine below_set ?_ GE276.out) | exact HB.out)) hb)
          clear HO284
          clear BK276
          clear HK
          clear HB
          have HO284 := n0_
          have BK276 := n1_
          have HK := n2_
          have HB := n3_
          clear n0_ n1_ n2_ n3_
          (try clear hb)
          (try clear hb2)
          (try clear hk)
          (try clear hi)
          obtain ⟨Ao31, co31, eo31⟩ := Kd.R_slice HO284.out
          (first | subst eo31 | (injection eo31 with f1_ f2_ f3_; have f4_ := f1_.symm; have f5_ := f3_.symm; clear f1_ f2_ f3_; subst f4_; subst f5_))
          refine hK.out _ _ ⟨(blk_cell BK276.out 0).trans rfl, (blk_cell BK276.out 1).trans rfl, (blk_cell BK276.out 2).trans rfl, (blk_cell BK276.out 3).trans rfl, (blk_cell BK276.out 4).trans rfl, (blk_cell BK276.out 5).trans rfl, (blk_cell BK276.out 6).trans rfl⟩ (fun hHeld => ?_)
          clear hK K
          refine norm_ (a' := ?_) ?_ ?_
          rotate_left
          ·show Act.put _ (some 49) _ = _
           simp only [Act.put, List.setIfInBounds_toArray, List.set_cons_zero, List.set_cons_succ, i64_w, i32_w]
           rfl
          refine one_ (i := 6) (N := some 50) #[true, true, true, true, true, true, true, false] rfl rfl (one_of HT_.out (by kernel_rfl)) (by decide) (fun K hK => ?_)
          refine goes_ Tryd.func33 (by kernel_rfl) rfl #[.slice Ao31 y282.length co31, .int .i64 t288] (by rfl) rfl rfl (by (try simp only [List.map_toArray, List.map_cons, List.map_nil]); first | done | rfl | (simp only [List.length_drop, List.length_take]; rfl)) ?_
          with_reducible refine (barrowref24_number.calls k2 (fun k_ => some k_ = (.slice Ao31 y282.length co31 : Value).ownBlock) (.slice Ao31 y282.length co31) y282 t288 t289 w0 _ ?side1 ?side2 A27.out).mono ?_
          (case side1 => repeat (first | (with_reducible first | exact HB.out | apply below_alloc | apply pw_below_drewN | apply below_drew1 | refine below_set ?_ GE276.out) | exact HB.out))
          (case side2 => exact Kd.R_tight rfl HO284.out)
          rintro e w32 ⟨v290, rfl, ho0, hb, hkp⟩
          refine ⟨_, rfl, ?_⟩
          have n0_ := Aside0.mk (blk_kept (by (with_reducible repeat (first | refine blk_drewN ?_ _ | refine blk_drew ?_ | refine blk_alloc ?_ _)); exact BK276.out) hkp (fun hs_ => (fun e_ => (Kd.R_ne HO284.out BK276.out (by decide)) e_) hs_))
          have n1_ := Aside0.mk (Kd.R_mono (ok' := fun k_ => (P0_ k_ ∨ w.heap.size ≤ k_)) ho0 (fun k_ hk_ => Or.elim hk_ (fun hs_ => (HO284.out.1 k_ (hs_).symm)) (fun hn_ => (.inr (Nat.le_trans (by first | exact HK.out.1 | exact (show Kept w _ (fun k_ => P0_ k_) from by repeat (first | (with_reducible first | exact HK.out | apply Kept.alloc | apply Kept.drewN | apply Kept.drew | refine Kept.setCell ?_ (.inr GW276.out) _) | exact HK.out)).1) hn_)))))
          have n2_ := Aside0.mk (Kept.then_ (S := (fun k_ => P0_ k_)) (by repeat (first | (with_reducible first | exact HK.out | apply Kept.alloc | apply Kept.drewN | apply Kept.drew | refine Kept.setCell ?_ (.inr GW276.out) _) | exact HK.out)) hkp (fun k_ hs_ => (fun e_ => (HO284.out.1 k_ e_.symm)) hs_))
          have n3_ := Aside0.mk (hb)
          clear BK276
          clear HK
          clear HB
          clear HO284
          have BK276 := n0_
          have HO291 := n1_
          have HK := n2_
          have HB := n3_
          clear n0_ n1_ n2_ n3_
          (try clear hb)
          (try clear hkp)
          (try clear ho0)
          refine hK.out _ _ ⟨(blk_cell BK276.out 0).trans rfl, (blk_cell BK276.out 1).trans rfl, (blk_cell BK276.out 2).trans rfl, (blk_cell BK276.out 3).trans rfl, (blk_cell BK276.out 4).trans rfl, (blk_cell BK276.out 5).trans rfl, (blk_cell BK276.out 6).trans rfl⟩ (fun hHeld => ?_)
          clear hK K
          refine norm_ (a' := ?_) ?_ ?_
          rotate_left
          ·show Act.put _ (some 50) _ = _
           simp only [Act.put, List.setIfInBounds_toArray, List.set_cons_zero, List.set_cons_succ, i64_w, i32_w]
           rfl
          refine pure_ (i := 7) (N := some 0) (v := ?_) (a' := ?_) #[true, true, true, true, true, true, true, true] rfl rfl (any_of HT_.out (by kernel_rfl)) (fun _ _ _ h => h) (Or.inl ⟨by rfl, ?_⟩) ?_ ?_
          rotate_left
          ·intro w'
           go_simp
           with_reducible rfl
          rotate_left
          ·simp only [Act.put, List.setIfInBounds_toArray, List.set_cons_zero, List.set_cons_succ, i64_w, i32_w]
           rfl
          refine done_ (done_of HT_.out (by kernel_rfl)) ?_
          try go_wp2
          go_roundg k2
          case measure => have := HK1.out; have := HK2.out; omega
          case rel => exact ⟨(t289), (wrap64 (x8_2 + 1)), (by first | rfl | (simp; done) | (simp [*]; done)), H', ⟨by have := HK1.out; have := HK2.out; omega⟩, ⟨by (with_reducible repeat (first | apply Kd.R_alloc | apply Kd.R_drewN | apply Kd.R_drew)); exact HO291.out⟩, ⟨by (with_reducible repeat (first | refine blk_drewN ?_ _ | refine blk_drew ?_ | refine blk_alloc ?_ _)); exact BK276.out⟩, ⟨by repeat (first | (with_reducible first | exact HK.out | apply Kept.alloc | apply Kept.drewN | apply Kept.drew | refine Kept.setCell ?_ (.inr GW276.out) _) | exact HK.out)⟩, ⟨by repeat (first | (with_reducible first | exact HB.out | apply below_alloc | apply pw_below_drewN | apply below_drew1 | refine below_set ?_ GE276.out) | exact HB.out)⟩⟩
        ·rw [if_neg c17] at H
         exact absurd H (by simp)
       ·rw [if_neg c16] at H
        exact absurd H (by simp)
      ·rw [if_neg c15] at H
       have c15b0 : decide (x8_2 < (t281.size : Int)) = false := decide_eq_false c15
       clear c15
       obtain rfl := Option.some.inj H
       go_wp2
       go_ret
       exact ⟨_, by first | rfl | (simp [errW_none, errW_some] <;> rfl) | (simp [*, errW_none, errW_some] <;> rfl), by (with_reducible repeat (first | apply Kd.R_alloc | apply Kd.R_drewN | apply Kd.R_drew)); exact HO_0.out, by repeat (first | (with_reducible first | exact HB.out | apply below_alloc | apply pw_below_drewN | apply below_drew1 | refine below_set ?_ GE276.out) | exact HB.out), by repeat (first | (with_reducible first | exact HK.out | apply Kept.alloc | apply Kept.drewN | apply Kept.drew | refine Kept.setCell ?_ (.inr GW276.out) _) | exact HK.out)⟩

end Go.Proofs.YtlmdhpfggobogaaDoor.G
