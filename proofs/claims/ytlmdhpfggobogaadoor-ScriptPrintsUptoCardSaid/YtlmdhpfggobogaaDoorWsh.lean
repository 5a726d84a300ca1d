/- The reference's word and shape of a kind: tables of 17 texts, read at the kind. -/
import Derived.Test.YtlmdhpfggobogaaDoorGx0
import Derived.Great.BuildSlice
import Derived.Deep.WholeRow
namespace Go.Proofs.YtlmdhpfggobogaaDoor.G
open Go.RowKit Go.Proofs.YtlmdhpfggobogaaDoorW.PrintWords Go.Proofs.YtlmdhpfggobogaaDoorW.PrintLast Go.Proofs.YtlmdhpfggobogaaDoorW.PrintMore
set_option linter.unusedVariables false
theorem kind_cases (k : Int) : k = 1 ∨ k = 2 ∨ k = 3 ∨ k = 4 ∨ k = 5 ∨ k = 6 ∨ k = 7 ∨ k = 8 ∨ k = 9 ∨ k = 10 ∨ k = 11 ∨ k = 12 ∨ k = 13 ∨ k = 14 ∨ k = 15 ∨ k = 16 ∨ k < 1 ∨ 16 < k := by omega
theorem st95 {ops : Array Oper} {rest : List Oper} {o : Oper} {a : Act} {Q : Exit → Act → World → Prop} {w : World} {O C : Array Value} (hgd : o.guard = none)
  (ho : o.op = .store 95 (.tmp 3) (.tmp 4)) (hd : o.dst = none) (hx : a.eval (.tmp 3) = .pointer (some ⟨w.heap.size, 0, none⟩)) (hy : a.eval (.tmp 4) = .agg C)
  (hO : O.size = 17) (hC : C.size = 17) (h1 : C.all (·.oneCell') = true) (h : wpList Tryd.prog ops Q rest a (w.alloc (.cells C 95))) :
  wpList Tryd.prog ops Q (o :: rest) a (w.alloc (.cells O 95)) :=
 wpList_store_rowTo hgd 95 (.tmp 3) (.tmp 4) ho hd w.heap.size C hx hy 95 O (heap_alloc_last w _) (by rw [hC]; kernel_rfl) (by omega) h1
  (by rw [show (w.alloc (.cells O 95)).setRow w.heap.size C = w.alloc (.cells C 95) from World.setRow_alloc_new w O C 95]; exact h)
def barrowref24_word.f (a0 : Int) : Option ByteArray := if a0 = 1 then some (⟨#[115, 101, 116]⟩ : ByteArray) else (if a0 = 2 then some (⟨#[97, 100, 100]⟩ : ByteArray) else (if a0 = 3 then some (⟨#[114, 101, 109, 111, 118, 101]⟩ : ByteArray) else (if a0 = 4 then some (⟨#[114, 101, 109, 111, 118, 101, 116, 111]⟩ : ByteArray) else (if a0 = 5 then some (⟨#[99, 108, 101, 97, 114]⟩ : ByteArray) else (if a0 = 6 then some (⟨#[99, 108, 101, 97, 114, 116, 111]⟩ : ByteArray) else (if a0 = 7 then some (⟨#[114, 101, 97, 100]⟩ : ByteArray) else (if a0 = 8 then some (⟨#[115, 121, 110, 99]⟩ : ByteArray) else (if a0 = 9 then some (⟨#[102, 117, 108, 108]⟩ : ByteArray) else (if a0 = 10 then some (⟨#[97, 115, 107]⟩ : ByteArray) else (if a0 = 11 then some (⟨#[100, 101, 108, 105, 118, 101, 114]⟩ : ByteArray) else (if a0 = 12 then some (⟨#[99, 111, 112, 121]⟩ : ByteArray) else (if a0 = 13 then some (⟨#[100, 114, 111, 112]⟩ : ByteArray) else (if a0 = 14 then some (⟨#[116, 114, 105, 109]⟩ : ByteArray) else (if a0 = 15 then some (⟨#[114, 101, 115, 116, 97, 114, 116]⟩ : ByteArray) else (if a0 = 16 then some (⟨#[112, 117, 115, 104]⟩ : ByteArray) else (some (⟨#[111, 112]⟩ : ByteArray)))))))))))))))))
def barrowref24_word.C : Array Value := #[.string (⟨#[111, 112]⟩ : ByteArray), .string (⟨#[115, 101, 116]⟩ : ByteArray), .string (⟨#[97, 100, 100]⟩ : ByteArray), .string (⟨#[114, 101, 109, 111, 118, 101]⟩ : ByteArray), .string (⟨#[114, 101, 109, 111, 118, 101, 116, 111]⟩ : ByteArray), .string (⟨#[99, 108, 101, 97, 114]⟩ : ByteArray), .string (⟨#[99, 108, 101, 97, 114, 116, 111]⟩ : ByteArray), .string (⟨#[114, 101, 97, 100]⟩ : ByteArray), .string (⟨#[115, 121, 110, 99]⟩ : ByteArray), .string (⟨#[102, 117, 108, 108]⟩ : ByteArray), .string (⟨#[97, 115, 107]⟩ : ByteArray), .string (⟨#[100, 101, 108, 105, 118, 101, 114]⟩ : ByteArray), .string (⟨#[99, 111, 112, 121]⟩ : ByteArray), .string (⟨#[100, 114, 111, 112]⟩ : ByteArray), .string (⟨#[116, 114, 105, 109]⟩ : ByteArray), .string (⟨#[114, 101, 115, 116, 97, 114, 116]⟩ : ByteArray), .string (⟨#[112, 117, 115, 104]⟩ : ByteArray)]
theorem barrowref24_word.cell (r : ByteArray) (a0 : Int) (w : World) (h : barrowref24_word.f a0 = some r) (h1 : 1 ≤ a0) (h2 : a0 ≤ 16) : (w.alloc (.cells #[.string (⟨#[111, 112]⟩ : ByteArray), .string (⟨#[115, 101, 116]⟩ : ByteArray), .string (⟨#[97, 100, 100]⟩ : ByteArray), .string (⟨#[114, 101, 109, 111, 118, 101]⟩ : ByteArray), .string (⟨#[114, 101, 109, 111, 118, 101, 116, 111]⟩ : ByteArray), .string (⟨#[99, 108, 101, 97, 114]⟩ : ByteArray), .string (⟨#[99, 108, 101, 97, 114, 116, 111]⟩ : ByteArray), .string (⟨#[114, 101, 97, 100]⟩ : ByteArray), .string (⟨#[115, 121, 110, 99]⟩ : ByteArray), .string (⟨#[102, 117, 108, 108]⟩ : ByteArray), .string (⟨#[97, 115, 107]⟩ : ByteArray), .string (⟨#[100, 101, 108, 105, 118, 101, 114]⟩ : ByteArray), .string (⟨#[99, 111, 112, 121]⟩ : ByteArray), .string (⟨#[100, 114, 111, 112]⟩ : ByteArray), .string (⟨#[116, 114, 105, 109]⟩ : ByteArray), .string (⟨#[114, 101, 115, 116, 97, 114, 116]⟩ : ByteArray), .string (⟨#[112, 117, 115, 104]⟩ : ByteArray)] 95)).cell? ⟨w.heap.size, a0.toNat, none⟩ = some (.string r) := by
  rw [cell_of_row _ w.heap.size a0.toNat _ 95 (0, 0) (heap_alloc_last w _)]
  unfold barrowref24_word.f at h
  rcases kind_cases a0 with rfl | rfl | rfl | rfl | rfl | rfl | rfl | rfl | rfl | rfl | rfl | rfl | rfl | rfl | rfl | rfl | h3 | h3
  all_goals first | (have h4 := Option.some.inj h; subst h4; rfl) | omega
set_option maxHeartbeats 4000000 in
set_option maxRecDepth 100000 in
theorem barrowref24_word.calls (a0 : Int) (r : ByteArray) (w : World) (h : barrowref24_word.f a0 = some r) :
    Calls Tryd.prog 52 #[.int .i64 a0] w fun e w' => e = .returned (.string r) ∧ Below w.heap.size w w' := by
  have hb : Below w.heap.size w (w.alloc (.cells #[.string (⟨#[111, 112]⟩ : ByteArray), .string (⟨#[115, 101, 116]⟩ : ByteArray), .string (⟨#[97, 100, 100]⟩ : ByteArray), .string (⟨#[114, 101, 109, 111, 118, 101]⟩ : ByteArray), .string (⟨#[114, 101, 109, 111, 118, 101, 116, 111]⟩ : ByteArray), .string (⟨#[99, 108, 101, 97, 114]⟩ : ByteArray), .string (⟨#[99, 108, 101, 97, 114, 116, 111]⟩ : ByteArray), .string (⟨#[114, 101, 97, 100]⟩ : ByteArray), .string (⟨#[115, 121, 110, 99]⟩ : ByteArray), .string (⟨#[102, 117, 108, 108]⟩ : ByteArray), .string (⟨#[97, 115, 107]⟩ : ByteArray), .string (⟨#[100, 101, 108, 105, 118, 101, 114]⟩ : ByteArray), .string (⟨#[99, 111, 112, 121]⟩ : ByteArray), .string (⟨#[100, 114, 111, 112]⟩ : ByteArray), .string (⟨#[116, 114, 105, 109]⟩ : ByteArray), .string (⟨#[114, 101, 115, 116, 97, 114, 116]⟩ : ByteArray), .string (⟨#[112, 117, 115, 104]⟩ : ByteArray)] 95)) := (Below.refl _ w).alloc (Nat.le_refl _) _
  by_cases h1 : a0 < 1
  · unfold barrowref24_word.f at h
    (iterate 16 rw [if_neg (by omega)] at h); have h2 := Option.some.inj h; subst h2; clear h
    have k1 := decide_eq_true h1
    go_enter Tryd.func52, Tryd.ntmps52
    go_wp2_with (first | (refine st95 rfl rfl rfl rfl rfl rfl rfl rfl ?_) | go_in)
    repeat (go_quiet (fail); try go_wp2)
    go_ret
    exact ⟨rfl, hb⟩
  · by_cases h2 : a0 > 16
    · unfold barrowref24_word.f at h
      (iterate 16 rw [if_neg (by omega)] at h); have h3 := Option.some.inj h; subst h3; clear h
      have k1 := decide_eq_false h1
      have k2 := decide_eq_true h2
      go_enter Tryd.func52, Tryd.ntmps52
      go_wp2_with (first | (refine st95 rfl rfl rfl rfl rfl rfl rfl rfl ?_) | go_in)
      repeat (go_quiet (fail); try go_wp2)
      go_ret
      exact ⟨rfl, hb⟩
    · have hc := barrowref24_word.cell r a0 w h (by omega) (by omega)
      have k1 := decide_eq_false h1
      have k2 := decide_eq_false h2
      have k3 : (0 ≤ a0) = True := eq_true (by omega)
      have k4 : (a0 < 17) = True := eq_true (by omega)
      clear h
      go_enter Tryd.func52, Tryd.ntmps52
      go_wp2_with (first | (refine st95 rfl rfl rfl rfl rfl rfl rfl rfl ?_) | go_in)
      repeat (go_quiet (fail); try go_wp2)
      go_ret
      exact ⟨rfl, hb⟩
def barrowref24_shape.f (a0 : Int) : Option ByteArray := if a0 = 1 then some (⟨#[82, 67, 83, 81]⟩ : ByteArray) else (if a0 = 2 then some (⟨#[82, 67, 83, 81]⟩ : ByteArray) else (if a0 = 3 then some (⟨#[82, 67, 83]⟩ : ByteArray) else (if a0 = 4 then some (⟨#[82, 83, 78]⟩ : ByteArray) else (if a0 = 5 then some (⟨#[82, 67]⟩ : ByteArray) else (if a0 = 6 then some (⟨#[82, 78]⟩ : ByteArray) else (if a0 = 7 then some (⟨#[82, 67]⟩ : ByteArray) else (if a0 = 8 then some (⟨#[82, 84]⟩ : ByteArray) else (if a0 = 9 then some (⟨#[82, 84]⟩ : ByteArray) else (if a0 = 10 then some (⟨#[82, 84]⟩ : ByteArray) else (if a0 = 11 then some (⟨#[78]⟩ : ByteArray) else (if a0 = 12 then some (⟨#[78]⟩ : ByteArray) else (if a0 = 13 then some (⟨#[78]⟩ : ByteArray) else (if a0 = 14 then some (⟨#[78, 81]⟩ : ByteArray) else (if a0 = 15 then some (⟨#[82]⟩ : ByteArray) else (if a0 = 16 then some (⟨#[82, 84, 78]⟩ : ByteArray) else (some (⟨#[75]⟩ : ByteArray)))))))))))))))))
def barrowref24_shape.C : Array Value := #[.string (⟨#[75]⟩ : ByteArray), .string (⟨#[82, 67, 83, 81]⟩ : ByteArray), .string (⟨#[82, 67, 83, 81]⟩ : ByteArray), .string (⟨#[82, 67, 83]⟩ : ByteArray), .string (⟨#[82, 83, 78]⟩ : ByteArray), .string (⟨#[82, 67]⟩ : ByteArray), .string (⟨#[82, 78]⟩ : ByteArray), .string (⟨#[82, 67]⟩ : ByteArray), .string (⟨#[82, 84]⟩ : ByteArray), .string (⟨#[82, 84]⟩ : ByteArray), .string (⟨#[82, 84]⟩ : ByteArray), .string (⟨#[78]⟩ : ByteArray), .string (⟨#[78]⟩ : ByteArray), .string (⟨#[78]⟩ : ByteArray), .string (⟨#[78, 81]⟩ : ByteArray), .string (⟨#[82]⟩ : ByteArray), .string (⟨#[82, 84, 78]⟩ : ByteArray)]
theorem barrowref24_shape.cell (r : ByteArray) (a0 : Int) (w : World) (h : barrowref24_shape.f a0 = some r) (h1 : 1 ≤ a0) (h2 : a0 ≤ 16) : (w.alloc (.cells #[.string (⟨#[75]⟩ : ByteArray), .string (⟨#[82, 67, 83, 81]⟩ : ByteArray), .string (⟨#[82, 67, 83, 81]⟩ : ByteArray), .string (⟨#[82, 67, 83]⟩ : ByteArray), .string (⟨#[82, 83, 78]⟩ : ByteArray), .string (⟨#[82, 67]⟩ : ByteArray), .string (⟨#[82, 78]⟩ : ByteArray), .string (⟨#[82, 67]⟩ : ByteArray), .string (⟨#[82, 84]⟩ : ByteArray), .string (⟨#[82, 84]⟩ : ByteArray), .string (⟨#[82, 84]⟩ : ByteArray), .string (⟨#[78]⟩ : ByteArray), .string (⟨#[78]⟩ : ByteArray), .string (⟨#[78]⟩ : ByteArray), .string (⟨#[78, 81]⟩ : ByteArray), .string (⟨#[82]⟩ : ByteArray), .string (⟨#[82, 84, 78]⟩ : ByteArray)] 95)).cell? ⟨w.heap.size, a0.toNat, none⟩ = some (.string r) := by
  rw [cell_of_row _ w.heap.size a0.toNat _ 95 (0, 0) (heap_alloc_last w _)]
  unfold barrowref24_shape.f at h
  rcases kind_cases a0 with rfl | rfl | rfl | rfl | rfl | rfl | rfl | rfl | rfl | rfl | rfl | rfl | rfl | rfl | rfl | rfl | h3 | h3
  all_goals first | (have h4 := Option.some.inj h; subst h4; rfl) | omega
set_option maxHeartbeats 4000000 in
set_option maxRecDepth 100000 in
theorem barrowref24_shape.calls (a0 : Int) (r : ByteArray) (w : World) (h : barrowref24_shape.f a0 = some r) :
    Calls Tryd.prog 44 #[.int .i64 a0] w fun e w' => e = .returned (.string r) ∧ Below w.heap.size w w' := by
  have hb : Below w.heap.size w (w.alloc (.cells #[.string (⟨#[75]⟩ : ByteArray), .string (⟨#[82, 67, 83, 81]⟩ : ByteArray), .string (⟨#[82, 67, 83, 81]⟩ : ByteArray), .string (⟨#[82, 67, 83]⟩ : ByteArray), .string (⟨#[82, 83, 78]⟩ : ByteArray), .string (⟨#[82, 67]⟩ : ByteArray), .string (⟨#[82, 78]⟩ : ByteArray), .string (⟨#[82, 67]⟩ : ByteArray), .string (⟨#[82, 84]⟩ : ByteArray), .string (⟨#[82, 84]⟩ : ByteArray), .string (⟨#[82, 84]⟩ : ByteArray), .string (⟨#[78]⟩ : ByteArray), .string (⟨#[78]⟩ : ByteArray), .string (⟨#[78]⟩ : ByteArray), .string (⟨#[78, 81]⟩ : ByteArray), .string (⟨#[82]⟩ : ByteArray), .string (⟨#[82, 84, 78]⟩ : ByteArray)] 95)) := (Below.refl _ w).alloc (Nat.le_refl _) _
  by_cases h1 : a0 < 1
  · unfold barrowref24_shape.f at h
    (iterate 16 rw [if_neg (by omega)] at h); have h2 := Option.some.inj h; subst h2; clear h
    have k1 := decide_eq_true h1
    go_enter Tryd.func44, Tryd.ntmps44
    go_wp2_with (first | (refine st95 rfl rfl rfl rfl rfl rfl rfl rfl ?_) | go_in)
    repeat (go_quiet (fail); try go_wp2)
    go_ret
    exact ⟨rfl, hb⟩
  · by_cases h2 : a0 > 16
    · unfold barrowref24_shape.f at h
      (iterate 16 rw [if_neg (by omega)] at h); have h3 := Option.some.inj h; subst h3; clear h
      have k1 := decide_eq_false h1
      have k2 := decide_eq_true h2
      go_enter Tryd.func44, Tryd.ntmps44
      go_wp2_with (first | (refine st95 rfl rfl rfl rfl rfl rfl rfl rfl ?_) | go_in)
      repeat (go_quiet (fail); try go_wp2)
      go_ret
      exact ⟨rfl, hb⟩
    · have hc := barrowref24_shape.cell r a0 w h (by omega) (by omega)
      have k1 := decide_eq_false h1
      have k2 := decide_eq_false h2
      have k3 : (0 ≤ a0) = True := eq_true (by omega)
      have k4 : (a0 < 17) = True := eq_true (by omega)
      clear h
      go_enter Tryd.func44, Tryd.ntmps44
      go_wp2_with (first | (refine st95 rfl rfl rfl rfl rfl rfl rfl rfl ?_) | go_in)
      repeat (go_quiet (fail); try go_wp2)
      go_ret
      exact ⟨rfl, hb⟩
end Go.Proofs.YtlmdhpfggobogaaDoor.G
