import Derived.Test.YtlmdhpfggobogaaDoorQSq5
import Derived.Great.BuildSlice
import Derived.Deep.WholeRow
import Derived.Test.YtlmdhpfggobogaaDoorQSq6
namespace Go.Proofs.YtlmdhpfggobogaaDoor.G
open Go.RowKit Go.Proofs.YtlmdhpfggobogaaDoorW.PrintWords Go.Proofs.YtlmdhpfggobogaaDoorW.PrintLast Go.Proofs.YtlmdhpfggobogaaDoorW.PrintMore
set_option linter.unusedVariables false
theorem kind_cases (k : Int) : k = 1 ∨ k = 2 ∨ k = 3 ∨ k = 4 ∨ k = 5 ∨ k = 6 ∨ k = 7 ∨ k = 8 ∨ k = 9 ∨ k = 10 ∨ k = 11 ∨ k = 12 ∨ k = 13 ∨ k = 14 ∨ k = 15 ∨ k = 16 ∨ k < 1 ∨ 16 < k := by omega
theorem st95 {ops : Array Oper} {rest : List Oper} {o : Oper} {a : Act} {Q : Exit → Act → World → Prop} {w : World} {O C : Array Value} (hgd : o.guard = none)
  (ho : o.op = .store 95 (.tmp 3) (.tmp 4)) (hd : o.dst = none) (hx : a.eval (.tmp 3) = .pointer (some ⟨w.heap.size, 0, none⟩)) (hy : a.eval (.tmp 4) = .agg C)
  (hO : O.size = 17) (hC : C.size = 17) (h1 : C.all (·.oneCell') = true) (h : wpList Tryd.prog ops Q rest a (w.alloc (.cells C 95))) :
  wpList Tryd.prog ops Q (o :: rest) a (w.alloc (.cells O 95)) :=
 wpList_store_rowTo hgd 95 (.tmp 3) (.tmp 4) ho hd w.heap.size C hx hy 95 O (heap_alloc_last w _) (by rw [hC]; kernel_rfl) (by omega) h1
  (by rw [show (w.alloc (.cells O 95)).setRow w.heap.size C = w.alloc (.cells C 95) from World.setRow_alloc_new w O C 95]; exact h)
def barrowref24_word.f (a0 : Int) : Option ByteArray := if a0 = 1 then some (⟨#[115, 101, 116]⟩ : ByteArray) else (if a0 = 2 then some (⟨#[97, 100, 100]⟩ : ByteArray) else (if a0 = 3 then some (⟨#[114, 101, 109, 111, 118, 101]⟩ : ByteArray) else (if a0 = 4 then some (⟨#[114, 101, 109, 111, 118, 101, 116, 111]⟩ : ByteArray) else (if a0 = 5 then some (⟨#[99, 108, 101, 97, 114]⟩ : ByteArray) else (if a0 = 6 then some (⟨#[99, 108, 101, 97, 114, 116, 111]⟩ : ByteArray) else (if a0 = 7 then some (⟨#[114, 101, 97, 100]⟩ : ByteArray) else (if a0 = 8 then some (⟨#[115, 121, 110, 99]⟩ : ByteArray) else (if a0 = 9 then some (⟨#[102, 117, 108, 108]⟩ : ByteArray) else (if a0 = 10 then some (⟨#[97, 115, 107]⟩ : ByteArray) else (if a0 = 11 then some (⟨#[100, 101, 108, 105, 118, 101, 114]⟩ : ByteArray) else (if a0 = 12 then some (⟨#[99, 111, 112, 121]⟩ : ByteArray) else (if a0 = 13 then some (⟨#[100, 114, 111, 112]⟩ : ByteArray) else (if a0 = 14 then some (⟨#[116, 114, 105, 109]⟩ : ByteArray) else (if a0 = 15 then some (⟨#[114, 101, 115, 116, 97, 114, 116]⟩ : ByteArray) else (if a0 = 16 then some (⟨#[112, 117, 115, 104]⟩ : ByteArray) else (some (⟨#[111, 112]⟩ : ByteArray)))))))))))))))))
theorem barrowref24_word.cell (r : ByteArray) (a0 : Int) (w : World) (h : barrowref24_word.f a0 = some r) (h1 : 1 ≤ a0) (h2 : a0 ≤ 16) : (w.alloc (.cells #[.string (⟨#[111, 112]⟩ : ByteArray), .string (⟨#[115, 101, 116]⟩ : ByteArray), .string (⟨#[97, 100, 100]⟩ : ByteArray), .string (⟨#[114, 101, 109, 111, 118, 101]⟩ : ByteArray), .string (⟨#[114, 101, 109, 111, 118, 101, 116, 111]⟩ : ByteArray), .string (⟨#[99, 108, 101, 97, 114]⟩ : ByteArray), .string (⟨#[99, 108, 101, 97, 114, 116, 111]⟩ : ByteArray), .string (⟨#[114, 101, 97, 100]⟩ : ByteArray), .string (⟨#[115, 121, 110, 99]⟩ : ByteArray), .string (⟨#[102, 117, 108, 108]⟩ : ByteArray), .string (⟨#[97, 115, 107]⟩ : ByteArray), .string (⟨#[100, 101, 108, 105, 118, 101, 114]⟩ : ByteArray), .string (⟨#[99, 111, 112, 121]⟩ : ByteArray), .string (⟨#[100, 114, 111, 112]⟩ : ByteArray), .string (⟨#[116, 114, 105, 109]⟩ : ByteArray), .string (⟨#[114, 101, 115, 116, 97, 114, 116]⟩ : ByteArray), .string (⟨#[112, 117, 115, 104]⟩ : ByteArray)] 95)).cell? ⟨w.heap.size, a0.toNat, none⟩ = some (.string r) := by
  rw [cell_of_row _ w.heap.size a0.toNat _ 95 (0, 0) (heap_alloc_last w _)]
  unfold barrowref24_word.f at h
  rcases kind_cases a0 with rfl | rfl | rfl | rfl | rfl | rfl | rfl | rfl | rfl | rfl | rfl | rfl | rfl | rfl | rfl | rfl | h3 | h3
  all_goals first | (have h4 := Option.some.inj h; subst h4; rfl) | omega
set_option maxHeartbeats 4000000 in
set_option maxRecDepth 100000 in
theorem barrowref24_word.calls (a0 : Int) (r : ByteArray) (w : World) (h : barrowref24_word.f a0 = some r) :
    Calls Tryd.prog 52 #[.int .i64 a0] w fun e w' => e = .returned (.string r) ∧ Below w.heap.size w w' := by
  have hb : Below w.heap.size w (w.alloc (.cells #[.string (⟨#[111, 112]⟩ : ByteArray), .string (⟨#[115, 101, 116]⟩ : ByteArray), .string (⟨#[97, 100, 100]⟩ : ByteArray), .string (⟨#[114, 101, 109, 111, 118, 101]⟩ : ByteArray), .string (⟨#[114, 101, 109, 111, 118, 101, 116, 111]⟩ : ByteArray), .string (⟨#[99, 108, 101, 97, 114]⟩ : ByteArray), .string (⟨#[99, 108, 101, 97, 114, 116, 111]⟩ : ByteArray), .string (⟨#[114, 101, 97, 100]⟩ : ByteArray), .string (⟨#[115, 121, 110, 99]⟩ : ByteArray), .string (⟨#[102, 117, 108, 108]⟩ : ByteArray), .string (⟨#[97, 115, 107]⟩ : ByteArray), .string (⟨#[100, 101, 108, 105, 118, 101, 114]⟩ : ByteArray), .string (⟨#[99, 111, 112, 121]⟩ : ByteArray), .string (⟨#[100, 114, 111, 112]⟩ : ByteArray), .string (⟨#[116, 114, 105, 109]⟩ : ByteArray), .string (⟨#[114, 101, 115, 116, 97, 114, 116]⟩ : ByteArray), .string (⟨#[112, 117, 115, 104]⟩ : ByteArray)] 95)) := (Below.refl _ w).alloc (Nat.le_refl _) _
  by_cases h1 : a0 < 1
  · unfold barrowref24_word.f at h
    (iterate 16 rw [if_neg (by omega)] at h); have h2 := Option.some.inj h; subst h2; clear h
    have k1 := decide_eq_true h1
    go_enter Tryd.func52, Tryd.ntmps52
    go_wp2_with (first | (refine st95 rfl rfl rfl rfl rfl rfl rfl rfl ?_) | go_in)
    repeat (go_quiet (fail); try go_wp2)
    go_ret
    exact ⟨rfl, hb⟩
  · by_cases h2 : a0 > 16
    · unfold barrowref24_word.f at h
      (iterate 16 rw [if_neg (by omega)] at h); have h3 := Option.some.inj h; subst h3; clear h
      have k1 := decide_eq_false h1
      have k2 := decide_eq_true h2
      go_enter Tryd.func52, Tryd.ntmps52
      go_wp2_with (first | (refine st95 rfl rfl rfl rfl rfl rfl rfl rfl ?_) | go_in)
      repeat (go_quiet (fail); try go_wp2)
      go_ret
      exact ⟨rfl, hb⟩
    · have hc := barrowref24_word.cell r a0 w h (by omega) (by omega)
      have k1 := decide_eq_false h1
      have k2 := decide_eq_false h2
      have k3 : (0 ≤ a0) = True := eq_true (by omega)
      have k4 : (a0 < 17) = True := eq_true (by omega)
      clear h
      go_enter Tryd.func52, Tryd.ntmps52
      go_wp2_with (first | (refine st95 rfl rfl rfl rfl rfl rfl rfl rfl ?_) | go_in)
      repeat (go_quiet (fail); try go_wp2)
      go_ret
      exact ⟨rfl, hb⟩
def barrowref24_shape.f (a0 : Int) : Option ByteArray := if a0 = 1 then some (⟨#[82, 67, 83, 81]⟩ : ByteArray) else (if a0 = 2 then some (⟨#[82, 67, 83, 81]⟩ : ByteArray) else (if a0 = 3 then some (⟨#[82, 67, 83]⟩ : ByteArray) else (if a0 = 4 then some (⟨#[82, 83, 78]⟩ : ByteArray) else (if a0 = 5 then some (⟨#[82, 67]⟩ : ByteArray) else (if a0 = 6 then some (⟨#[82, 78]⟩ : ByteArray) else (if a0 = 7 then some (⟨#[82, 67]⟩ : ByteArray) else (if a0 = 8 then some (⟨#[82, 84]⟩ : ByteArray) else (if a0 = 9 then some (⟨#[82, 84]⟩ : ByteArray) else (if a0 = 10 then some (⟨#[82, 84]⟩ : ByteArray) else (if a0 = 11 then some (⟨#[78]⟩ : ByteArray) else (if a0 = 12 then some (⟨#[78]⟩ : ByteArray) else (if a0 = 13 then some (⟨#[78]⟩ : ByteArray) else (if a0 = 14 then some (⟨#[78, 81]⟩ : ByteArray) else (if a0 = 15 then some (⟨#[82]⟩ : ByteArray) else (if a0 = 16 then some (⟨#[82, 84, 78]⟩ : ByteArray) else (some (⟨#[75]⟩ : ByteArray)))))))))))))))))
theorem barrowref24_shape.cell (r : ByteArray) (a0 : Int) (w : World) (h : barrowref24_shape.f a0 = some r) (h1 : 1 ≤ a0) (h2 : a0 ≤ 16) : (w.alloc (.cells #[.string (⟨#[75]⟩ : ByteArray), .string (⟨#[82, 67, 83, 81]⟩ : ByteArray), .string (⟨#[82, 67, 83, 81]⟩ : ByteArray), .string (⟨#[82, 67, 83]⟩ : ByteArray), .string (⟨#[82, 83, 78]⟩ : ByteArray), .string (⟨#[82, 67]⟩ : ByteArray), .string (⟨#[82, 78]⟩ : ByteArray), .string (⟨#[82, 67]⟩ : ByteArray), .string (⟨#[82, 84]⟩ : ByteArray), .string (⟨#[82, 84]⟩ : ByteArray), .string (⟨#[82, 84]⟩ : ByteArray), .string (⟨#[78]⟩ : ByteArray), .string (⟨#[78]⟩ : ByteArray), .string (⟨#[78]⟩ : ByteArray), .string (⟨#[78, 81]⟩ : ByteArray), .string (⟨#[82]⟩ : ByteArray), .string (⟨#[82, 84, 78]⟩ : ByteArray)] 95)).cell? ⟨w.heap.size, a0.toNat, none⟩ = some (.string r) := by
  rw [cell_of_row _ w.heap.size a0.toNat _ 95 (0, 0) (heap_alloc_last w _)]
  unfold barrowref24_shape.f at h
  rcases kind_cases a0 with rfl | rfl | rfl | rfl | rfl | rfl | rfl | rfl | rfl | rfl | rfl | rfl | rfl | rfl | rfl | rfl | h3 | h3
  all_goals first | (have h4 := Option.some.inj h; subst h4; rfl) | omega
set_option maxHeartbeats 4000000 in
set_option maxRecDepth 100000 in
theorem barrowref24_shape.calls (a0 : Int) (r : ByteArray) (w : World) (h : barrowref24_shape.f a0 = some r) :
    Calls Tryd.prog 44 #[.int .i64 a0] w fun e w' => e = .returned (.string r) ∧ Below w.heap.size w w' := by
  have hb : Below w.heap.size w (w.alloc (.cells #[.string (⟨#[75]⟩ : ByteArray), .string (⟨#[82, 67, 83, 81]⟩ : ByteArray), .string (⟨#[82, 67, 83, 81]⟩ : ByteArray), .string (⟨#[82, 67, 83]⟩ : ByteArray), .string (⟨#[82, 83, 78]⟩ : ByteArray), .string (⟨#[82, 67]⟩ : ByteArray), .string (⟨#[82, 78]⟩ : ByteArray), .string (⟨#[82, 67]⟩ : ByteArray), .string (⟨#[82, 84]⟩ : ByteArray), .string (⟨#[82, 84]⟩ : ByteArray), .string (⟨#[82, 84]⟩ : ByteArray), .string (⟨#[78]⟩ : ByteArray), .string (⟨#[78]⟩ : ByteArray), .string (⟨#[78]⟩ : ByteArray), .string (⟨#[78, 81]⟩ : ByteArray), .string (⟨#[82]⟩ : ByteArray), .string (⟨#[82, 84, 78]⟩ : ByteArray)] 95)) := (Below.refl _ w).alloc (Nat.le_refl _) _
  by_cases h1 : a0 < 1
  · unfold barrowref24_shape.f at h
    (iterate 16 rw [if_neg (by omega)] at h); have h2 := Option.some.inj h; subst h2; clear h
    have k1 := decide_eq_true h1
    go_enter Tryd.func44, Tryd.ntmps44
    go_wp2_with (first | (refine st95 rfl rfl rfl rfl rfl rfl rfl rfl ?_) | go_in)
    repeat (go_quiet (fail); try go_wp2)
    go_ret
    exact ⟨rfl, hb⟩
  · by_cases h2 : a0 > 16
    · unfold barrowref24_shape.f at h
      (iterate 16 rw [if_neg (by omega)] at h); have h3 := Option.some.inj h; subst h3; clear h
      have k1 := decide_eq_false h1
      have k2 := decide_eq_true h2
      go_enter Tryd.func44, Tryd.ntmps44
      go_wp2_with (first | (refine st95 rfl rfl rfl rfl rfl rfl rfl rfl ?_) | go_in)
      repeat (go_quiet (fail); try go_wp2)
      go_ret
      exact ⟨rfl, hb⟩
    · have hc := barrowref24_shape.cell r a0 w h (by omega) (by omega)
      have k1 := decide_eq_false h1
      have k2 := decide_eq_false h2
      have k3 : (0 ≤ a0) = True := eq_true (by omega)
      have k4 : (a0 < 17) = True := eq_true (by omega)
      clear h
      go_enter Tryd.func44, Tryd.ntmps44
      go_wp2_with (first | (refine st95 rfl rfl rfl rfl rfl rfl rfl rfl ?_) | go_in)
      repeat (go_quiet (fail); try go_wp2)
      go_ret
      exact ⟨rfl, hb⟩
end Go.Proofs.YtlmdhpfggobogaaDoor.G

namespace Go.Proofs.YtlmdhpfggobogaaDoor.G
open Go.RowKit Go.Proofs.YtlmdhpfggobogaaDoorW.PrintWords Go.Proofs.YtlmdhpfggobogaaDoorW.PrintLast Go.Proofs.YtlmdhpfggobogaaDoorW.PrintMore
attribute [local go_sem] max2_int min2_int max_two min_two max_three min_three max_four min_four   -- for this text's walks alone
set_option linter.unusedVariables false
set_option linter.unusedSimpArgs false
mutual
def barrowref24_step.l0 : Nat → List ByteArray → Int → Option (Int × Int × Int × Int × ByteArray × Int × Int × Bool)
 | 0, _, _ => none
 | k + 1, x0, x4 => if x4 ≤ 16 then ((barrowref24_shape.f x4).bind fun t179 => (if (x0.length : Int) = (wrap64 ((t179.size : Int) + 1)) then (if 0 < (x0.length : Int) then ((barrowref24_word.f x4).bind fun t181 => (barrowref24_step.j1 k x0 x4 t179 ((rdOf ByteArray.empty x0 0).toList != t181.toList))) else (none)) else (barrowref24_step.j1 k x0 x4 t179 true))) else (some (0, 0, 0, 0, (⟨#[]⟩ : ByteArray), 0, 0, false))
def barrowref24_step.j1 : Nat → List ByteArray → Int → ByteArray → Bool → Option (Int × Int × Int × Int × ByteArray × Int × Int × Bool)
 | 0, _, _, _, _ => none
 | k + 1, x0, x4, x5, x31 => if x31 = true then (barrowref24_step.l0 k x0 (wrap64 (x4 + 1))) else (barrowref24_step.l1 k x0 x4 x5 0 x4 0 0 0 (⟨#[]⟩ : ByteArray) 0 0)
def barrowref24_step.l1 : Nat → List ByteArray → Int → ByteArray → Int → Int → Int → Int → Int → ByteArray → Int → Int → Option (Int × Int × Int × Int × ByteArray × Int × Int × Bool)
 | 0, _, _, _, _, _, _, _, _, _, _, _ => none
 | k + 1, x0, x4, x5, x7, x183000, x183001, x183002, x183003, x183004, x183005, x183006 => if x7 < (x5.size : Int) then (if 0 ≤ x7 then (if (bt x5 x7) = 83 then (if 0 ≤ (wrap64 (x7 + 1)) then (if (wrap64 (x7 + 1)) < (x0.length : Int) then ((barrowref24_skuOf.f k (rdOf ByteArray.empty x0 (wrap64 (x7 + 1)))).bind fun bt184 => (if bt184.2 = true then (barrowref24_step.l1 k x0 x4 x5 (wrap64 (x7 + 1)) x183000 x183001 x183002 x183003 bt184.1 x183005 x183006) else (some (0, 0, 0, 0, (⟨#[]⟩ : ByteArray), 0, 0, false)))) else (none)) else (none)) else (if 0 ≤ (wrap64 (x7 + 1)) then (if (wrap64 (x7 + 1)) < (x0.length : Int) then ((barrowref24_numberOf.f k (rdOf ByteArray.empty x0 (wrap64 (x7 + 1)))).bind fun bt187 => (if bt187.2 = true then ((barrowref24_with.f x183000 x183001 x183002 x183003 x183004 x183005 x183006 (bt x5 x7) bt187.1).bind fun bt189 => (barrowref24_step.l1 k x0 x4 x5 (wrap64 (x7 + 1)) bt189.1 bt189.2.1 bt189.2.2.1 bt189.2.2.2.1 bt189.2.2.2.2.1 bt189.2.2.2.2.2.1 bt189.2.2.2.2.2.2)) else (some (0, 0, 0, 0, (⟨#[]⟩ : ByteArray), 0, 0, false)))) else (none)) else (none))) else (none)) else (if x4 = 0 then (if x183000 ≥ 1 then (if x183000 ≤ 16 then (some (0, 0, 0, 0, (⟨#[]⟩ : ByteArray), 0, 0, false)) else (some (x183000, x183001, x183002, x183003, x183004, x183005, x183006, true))) else (some (x183000, x183001, x183002, x183003, x183004, x183005, x183006, true))) else (some (x183000, x183001, x183002, x183003, x183004, x183005, x183006, true)))
end
def barrowref24_step.f (k : Nat) (l0 : List ByteArray) : Option (Int × Int × Int × Int × ByteArray × Int × Int × Bool) := barrowref24_step.l0 k l0 0
def barrowref24_step.T5 : Bool × List (List Nat × List Nat) := (true, [([], []), ([0], [0]), ([], []), ([2], [2]), ([3], [3]), ([1, 4], [1, 4]), ([5], [5]), ([6], [6]), ([7, 6], [6, 7]), ([8, 6], [6, 8]), ([6], [6]), ([10, 6, 6], [6, 10]), ([9, 11, 6], [6, 9, 11]), ([6, 12], [6, 12])])
def barrowref24_step.B5 : List Nat := [0, 1, 0, 4, 12, 31, 63, 127, 255, 511, 127, 1151, 4095, 8191]
theorem barrowref24_step.tab5 : rtab .any (opsOf Tryd.f40 5) = barrowref24_step.T5 := by kernel_rfl
theorem barrowref24_step.bits5 : waitsOk barrowref24_step.T5.2 barrowref24_step.B5 = true := by kernel_rfl
set_option maxHeartbeats 8000000 in
set_option maxRecDepth 100000 in
theorem barrowref24_step.calls (k : Nat) (A0 : Option Addr) (c0 : Nat) (l0 : List ByteArray) (r1 : Int) (r2 : Int) (r3 : Int) (r4 : Int) (r5 : ByteArray) (r6 : Int) (r7 : Int) (r8 : Bool) (w : World) (hr0 : Kd.C Kd.string w A0 l0.length l0) (hc0 : l0.length ≤ c0) (h : barrowref24_step.f k l0 = some (r1, r2, r3, r4, r5, r6, r7, r8)) :
  Calls Tryd.prog 40 #[.slice A0 l0.length c0] w fun e w' => e = .returned (.tuple #[.agg #[.int .i64 r1, .int .i64 r2, .int .i64 r3, .int .i64 r4, .string r5, .int .i64 r6, .int .i64 r7], .bool r8]) ∧ Below w.heap.size w w' := by
 have hu29 := Tryd.underlying29
 have HR0 := Aside0.mk hr0
 have HC0 := Aside0.mk hc0
 clear hr0 hc0
 have HB := Aside0.mk (Below.refl w.heap.size w)
 have H : (barrowref24_step.l0 k l0 0) = some (r1, r2, r3, r4, r5, r6, r7, r8) := h
 clear h
 have H' := Aside0.mk H
 clear H
 go_enter Tryd.func40, Tryd.ntmps40
 go_wp2_with (first | ((with_reducible refine gate_dst (N := 2) rfl ?_); refine box_event ?hg (N := 2) ?hd (cs := #[.int .i64 0, .int .i64 0, .int .i64 0, .int .i64 0, .string (⟨#[]⟩ : ByteArray), .int .i64 0, .int .i64 0]) (t := 29) ?hr ?_; (case hd => rfl); (case hg => rfl); (case hr => first | (go_simp; done) | (go_simp; rfl)); intro gb178 hg w2 hbox hb; have n0_ := Aside0.mk (below_step (by repeat (first | (with_reducible first | exact HB.out | apply below_alloc | apply pw_below_drewN | apply below_drew1) | exact HB.out)) hb); have n1_ := Aside0.mk (hbox); have n2_ := Aside0.mk ((by rw [hg]; exact (below_size (by repeat (first | (with_reducible first | exact HB.out | apply below_alloc | apply pw_below_drewN | apply below_drew1) | exact HB.out))) : w.heap.size ≤ gb178)); have n3_ := Aside0.mk ((by rw [hg]; exact (below_size (by repeat (first | (with_reducible first | exact HB.out | apply below_alloc | apply pw_below_drewN | apply below_drew1) | exact HB.out))) : w.heap.size ≤ gb178)); clear HB; have HB := n0_; have BK178 := n1_; have GW178 := n2_; have GE178 := n3_; clear n0_ n1_ n2_ n3_; clear hb hbox hg))
 go_loopg [4] k (fun kq v4 w' => ∃ (x4_1 : Int) (x179000_1 : Int) (x179001_1 : Int) (x179002_1 : Int) (x179003_1 : Int) (x179004_1 : ByteArray) (x179005_1 : Int) (x179006_1 : Int), v4 = .int .i64 x4_1 ∧ Aside0 (barrowref24_step.l0 kq l0 x4_1 = some (r1, r2, r3, r4, r5, r6, r7, r8)) ∧ Aside0 (kq ≤ k) ∧ Aside0 (w'.heap[gb178]? = some (.cells #[.int .i64 x179000_1, .int .i64 x179001_1, .int .i64 x179002_1, .int .i64 x179003_1, .string x179004_1, .int .i64 x179005_1, .int .i64 x179006_1] 29 (0, 0))) ∧ Aside0 (Below w.heap.size w w'))
 case atStart => exact ⟨(0), (0), (0), (0), (0), ((⟨#[]⟩ : ByteArray)), (0), (0), (by first | rfl | (simp; done) | (simp [*]; done)), H', ⟨Nat.le_refl _⟩, ⟨by (with_reducible repeat (first | refine blk_drewN ?_ _ | refine blk_drew ?_ | refine blk_alloc ?_ _)); exact BK178.out⟩, ⟨by repeat (first | (with_reducible first | exact HB.out | apply below_alloc | apply pw_below_drewN | apply below_drew1 | refine below_set ?_ GE178.out) | exact HB.out)⟩⟩
 case round =>
  clear H'
  try clear p2
  obtain ⟨x4_1, x179000_1, x179001_1, x179002_1, x179003_1, x179004_1, x179005_1, x179006_1, rfl, HA, HK1, BK178, HB⟩ := hrel
  cases gk with
  | zero => exact absurd HA.out (by simp [barrowref24_step.l0])
  | succ k1 =>
   have H := HA.out
   clear HA
   simp only [barrowref24_step.l0] at H
   by_cases c3 : x4_1 ≤ 16
   ·rw [if_pos c3] at H
    have c3b0 : decide (x4_1 ≤ 16) = true := decide_eq_true c3
    clear c3
    replace H := Option.bind_eq_some_iff.mp H
    obtain ⟨t179, A40, H⟩ := H
    replace H : (if (l0.length : Int) = (wrap64 ((t179.size : Int) + 1)) then (if 0 < (l0.length : Int) then ((barrowref24_word.f x4_1).bind fun t181 => (barrowref24_step.j1 k1 l0 x4_1 t179 ((rdOf ByteArray.empty l0 0).toList != t181.toList))) else (none)) else (barrowref24_step.j1 k1 l0 x4_1 t179 true)) = some (r1, r2, r3, r4, r5, r6, r7, r8) := H
    have A4 := Aside0.mk A40
    clear A40
    have HC5 := Aside0.mk H
    clear H
    go_upto_region 5 with (first | ((with_reducible refine gate_callee (f := 44) rfl ?_); refine goesL_ (some 17) rfl rfl Tryd.func44 (by kernel_rfl) rfl #[.int .i64 x4_1] rfl (by (try simp only [List.map_toArray, List.map_cons, List.map_nil]); first | done | rfl | (simp only [List.length_drop, List.length_take]; rfl)) ?_; (with_reducible refine (barrowref24_shape.calls x4_1 t179 _ A4.out).mono ?_); rintro e w6 ⟨rfl, hb⟩; refine ⟨_, rfl, ?_⟩; have n0_ := Aside0.mk (blk_below (g := gb178) (o := .cells #[.int .i64 x179000_1, .int .i64 x179001_1, .int .i64 x179002_1, .int .i64 x179003_1, .string x179004_1, .int .i64 x179005_1, .int .i64 x179006_1] 29 (0, 0)) (by (with_reducible repeat (first | refine blk_drewN ?_ _ | refine blk_drew ?_ | refine blk_alloc ?_ _)); exact BK178.out) hb); have n1_ := Aside0.mk (below_step (by repeat (first | (with_reducible first | exact HB.out | apply below_alloc | apply pw_below_drewN | apply below_drew1 | refine below_set ?_ GE178.out) | exact HB.out)) hb); clear BK178; clear HB; have BK178 := n0_; have HB := n1_; clear n0_ n1_; (try clear hb); (try clear hb2); (try clear hk); (try clear hi)))
    (try simp only [Act.put, List.setIfInBounds_toArray, List.set_cons_zero, List.set_cons_succ])
    go_cut [31] (fun v31 wc => ∃ (kq : Nat) (x31_4 : Bool), v31 = .bool x31_4 ∧ Aside0 (barrowref24_step.j1 kq l0 x4_1 t179 x31_4 = some (r1, r2, r3, r4, r5, r6, r7, r8)) ∧ Aside0 (kq ≤ k1) ∧ Aside0 (wc.heap[gb178]? = some (.cells #[.int .i64 x179000_1, .int .i64 x179001_1, .int .i64 x179002_1, .int .i64 x179003_1, .string x179004_1, .int .i64 x179005_1, .int .i64 x179006_1] 29 (0, 0))) ∧ Aside0 (Below w.heap.size w wc))
    case first =>
     have H := HC5.out
     clear HC5
     by_cases c7 : (l0.length : Int) = (wrap64 ((t179.size : Int) + 1))
     ·rw [if_pos c7] at H
      have c7b0 : ((l0.length : Int) == (wrap64 ((t179.size : Int) + 1))) = true := beq_iff_eq.mpr c7
      have c7b1 : ((l0.length : Int) != (wrap64 ((t179.size : Int) + 1))) = false := bne_eq_false_iff_eq.mpr c7
      clear c7
      (first | rw [c7b0] | (simp only [i64_w, i32_w]; rw [c7b0]) | skip)
      by_cases c8 : 0 < (l0.length : Int)
      ·rw [if_pos c8] at H
       have c8b0 : decide (0 < (l0.length : Int)) = true := decide_eq_true c8
       have c8b1 : decide (0 < l0.length) = true := decide_eq_true (by omega)
       clear c8
       replace H := Option.bind_eq_some_iff.mp H
       obtain ⟨t181, A90, H⟩ := H
       replace H : (barrowref24_step.j1 k1 l0 x4_1 t179 ((rdOf ByteArray.empty l0 0).toList != t181.toList)) = some (r1, r2, r3, r4, r5, r6, r7, r8) := H
       have A9 := Aside0.mk A90
       clear A90
       have H' := Aside0.mk H
       clear H
       try go_wp2
       have n0_ := Aside0.mk (blk_drew BK178.out)
       have n1_ := Aside0.mk (below_drew1 HB.out)
       clear BK178
       clear HB
       have BK178 := n0_
       have HB := n1_
       clear n0_ n1_
       have p180 : 0 ≤ (0 : Int) := (by omega)
       have q180 : 0 < (l0.length : Int) := of_decide_eq_true (by first | (with_reducible assumption) | assumption)
       obtain ⟨ad180, e180, hx180_0⟩ := Kd.at_string HR0.out 0 p180 q180
       have hw180_0 := hx180_0
       (try rw [show ((0 : Int)).toNat = 0 from rfl] at hw180_0)
       (try rw [show 0 * 1 = 0 from rfl] at hw180_0)
       (try rw [Addr.add_zero'] at hw180_0)
       cases e180
       have qi180 : (0 < l0.length) = True := eq_true (by omega)
       (try rw [show ((0 : Int)).toNat = 0 from rfl] at hx180_0)
       (try rw [Addr.add_zero'] at hx180_0)
       replace hx180_0 := (HB.out.cell (World.block_lt_of_cell? w _ hx180_0)).trans hx180_0
       replace p180 := eq_true p180
       replace q180 := eq_true q180
       refine start_ (n := 14) (S := fun w' => w'.cell? ad180 = some (.string (rdOf ByteArray.empty l0 0))) (ds := []) #[false, false, false, false, false, false, false, false, false, false, false, false, false, false] (by kernel_rfl) rfl rfl (((HB.out.cell (World.block_lt_of_cell? w _ hw180_0)).trans hw180_0)) (fun hHeld => ?_); refine with_tabW barrowref24_step.tab5 barrowref24_step.bits5 (fun HT_ HW_ => ?_)
       generalize w6.drew = w10 at BK178 HB hx180_0 hHeld ⊢
       refine pure_ (i := 0) (N := some 18) (v := ?_) (a' := ?_) #[true, false, false, false, false, false, false, false, false, false, false, false, false, false] rfl rfl (any_of HT_.out (by kernel_rfl)) (fun _ _ _ h => h) (Or.inl ⟨by rfl, ?_⟩) ?_ ?_
       rotate_left
       ·intro w'
        go_simp
        with_reducible rfl
       rotate_left
       ·simp only [Act.put, List.setIfInBounds_toArray, List.set_cons_zero, List.set_cons_succ, i64_w, i32_w]
        rfl
       refine pure_ (i := 1) (N := some 19) (v := ?_) (a' := ?_) #[true, true, false, false, false, false, false, false, false, false, false, false, false, false] rfl rfl (any_of HT_.out (by kernel_rfl)) (fun _ _ _ h => h) (Or.inl ⟨by rfl, ?_⟩) ?_ ?_
       rotate_left
       ·intro w'
        go_simp
        with_reducible rfl
       rotate_left
       ·simp only [Act.put, List.setIfInBounds_toArray, List.set_cons_zero, List.set_cons_succ, i64_w, i32_w]
        rfl
       refine pure_ (i := 2) (N := some 20) (v := ?_) (a' := ?_) #[true, true, true, false, false, false, false, false, false, false, false, false, false, false] rfl rfl (any_of HT_.out (by kernel_rfl)) (fun _ _ _ h => h) (Or.inl ⟨by rfl, ?_⟩) ?_ ?_
       rotate_left
       ·intro w'
        go_simp
        with_reducible rfl
       rotate_left
       ·simp only [Act.put, List.setIfInBounds_toArray, List.set_cons_zero, List.set_cons_succ, i64_w, i32_w]
        rfl
       refine pure_ (i := 3) (N := some 21) (v := ?_) (a' := ?_) #[true, true, true, true, false, false, false, false, false, false, false, false, false, false] rfl rfl (any_of HT_.out (by kernel_rfl)) (fun _ _ _ h => h) (Or.inl ⟨by rfl, ?_⟩) ?_ ?_
       rotate_left
       ·intro w'
        go_simp
        with_reducible rfl
       rotate_left
       ·simp only [Act.put, List.setIfInBounds_toArray, List.set_cons_zero, List.set_cons_succ, i64_w, i32_w]
        rfl
       refine pure_ (i := 4) (N := some 22) (v := ?_) (a' := ?_) #[true, true, true, true, true, false, false, false, false, false, false, false, false, false] rfl rfl (any_of HT_.out (by kernel_rfl)) (fun _ _ _ h => h) (Or.inl ⟨by rfl, ?_⟩) ?_ ?_
       rotate_left
       ·intro w'
        go_simp
        with_reducible rfl
       rotate_left
       ·simp only [Act.put, List.setIfInBounds_toArray, List.set_cons_zero, List.set_cons_succ, i64_w, i32_w]
        rfl
       refine pure_ (i := 5) (N := some 23) (v := ?_) (a' := ?_) #[true, true, true, true, true, true, false, false, false, false, false, false, false, false] rfl rfl (any_of HT_.out (by kernel_rfl)) (fun _ _ _ h => h) (Or.inl ⟨by rfl, ?_⟩) ?_ ?_
       rotate_left
       ·intro w'
        go_simp
        with_reducible rfl
       rotate_left
       ·simp only [Act.put, List.setIfInBounds_toArray, List.set_cons_zero, List.set_cons_succ, i64_w, i32_w]
        rfl
       refine pure_ (i := 6) (N := some 24) (v := ?_) (a' := ?_) #[true, true, true, true, true, true, true, false, false, false, false, false, false, false] rfl rfl (any_of HT_.out (by kernel_rfl)) (fun _ _ _ h => h) (Or.inl ⟨by rfl, ?_⟩) ?_ ?_
       rotate_left
       ·intro w'
        go_simp
        with_reducible rfl
       rotate_left
       ·simp only [Act.put, List.setIfInBounds_toArray, List.set_cons_zero, List.set_cons_succ, i64_w, i32_w]
        rfl
       refine pure_ (i := 7) (N := some 25) (v := ?_) (a' := ?_) #[true, true, true, true, true, true, true, true, false, false, false, false, false, false] rfl rfl (any_of HT_.out (by kernel_rfl)) (fun _ _ _ h => h) (Or.inl ⟨by rfl, ?_⟩) ?_ ?_
       rotate_left
       ·intro w'
        go_simp
        with_reducible rfl
       rotate_left
       ·simp only [Act.put, List.setIfInBounds_toArray, List.set_cons_zero, List.set_cons_succ, i64_w, i32_w]
        rfl
       refine pure_ (i := 8) (N := some 26) (v := ?_) (a' := ?_) #[true, true, true, true, true, true, true, true, true, false, false, false, false, false] rfl rfl (any_of HT_.out (by kernel_rfl)) (fun _ _ _ h => h) (Or.inl ⟨by rfl, ?_⟩) ?_ ?_
       rotate_left
       ·intro w'
        go_simp
        with_reducible rfl
       rotate_left
       ·simp only [Act.put, List.setIfInBounds_toArray, List.set_cons_zero, List.set_cons_succ, i64_w, i32_w]
        rfl
       refine pure_ (i := 10) (N := some 28) (v := ?_) (a' := ?_) #[true, true, true, true, true, true, true, true, true, false, true, false, false, false] rfl rfl (any_of HT_.out (by kernel_rfl)) (fun _ _ _ h => h) (Or.inl ⟨by rfl, ?_⟩) ?_ ?_
       rotate_left
       ·intro w'
        go_simp
        with_reducible rfl
       rotate_left
       ·simp only [Act.put, List.setIfInBounds_toArray, List.set_cons_zero, List.set_cons_succ, i64_w, i32_w]
        rfl
       refine take_ (i := 9) (N := some 27) (v := ?_) (a' := ?_) #[true, true, true, true, true, true, true, true, true, true, true, false, false, false] rfl rfl (take_ofW HT_.out HW_.out (by kernel_rfl)) (fun _ _ _ h => h) (Or.inl ⟨by rfl, ?_⟩) hHeld ?_ ?_
       rotate_left
       ·intro w' s0
        go_simp
        with_reducible rfl
       rotate_left
       ·simp only [Act.put, List.setIfInBounds_toArray, List.set_cons_zero, List.set_cons_succ, i64_w, i32_w]
        rfl
       refine one_ (i := 11) (N := some 29) #[true, true, true, true, true, true, true, true, true, true, true, true, false, false] rfl rfl (one_of HT_.out (by kernel_rfl)) (by decide) (fun K hK => ?_)
       refine goes_ Tryd.func52 (by kernel_rfl) rfl #[.int .i64 x4_1] (by rfl) rfl rfl (by (try simp only [List.map_toArray, List.map_cons, List.map_nil]); first | done | rfl | (simp only [List.length_drop, List.length_take]; rfl)) ?_
       with_reducible refine (barrowref24_word.calls x4_1 t181 _ A9.out).mono ?_
       rintro e w11 ⟨rfl, hb⟩
       refine ⟨_, rfl, ?_⟩
       have n0_ := Aside0.mk (blk_below (g := gb178) (o := .cells #[.int .i64 x179000_1, .int .i64 x179001_1, .int .i64 x179002_1, .int .i64 x179003_1, .string x179004_1, .int .i64 x179005_1, .int .i64 x179006_1] 29 (0, 0)) (by (with_reducible repeat (first | refine blk_drewN ?_ _ | refine blk_drew ?_ | refine blk_alloc ?_ _)); exact BK178.out) hb)
       have n1_ := Aside0.mk (below_step (by repeat (first | (with_reducible first | exact HB.out | apply below_alloc | apply pw_below_drewN | apply below_drew1 | refine below_set ?_ GE178.out) | exact HB.out)) hb)
       clear BK178
       clear HB
       have BK178 := n0_
       have HB := n1_
       clear n0_ n1_
       (try clear hb)
       (try clear hb2)
       (try clear hk)
       (try clear hi)
       refine hK.out _ _ (((HB.out.cell (World.block_lt_of_cell? w _ hw180_0)).trans hw180_0)) (fun hHeld => ?_)
       clear hK K
       refine norm_ (a' := ?_) ?_ ?_
       rotate_left
       ·show Act.put _ (some 29) _ = _
        simp only [Act.put, List.setIfInBounds_toArray, List.set_cons_zero, List.set_cons_succ, i64_w, i32_w]
        rfl
       refine pure_ (i := 12) (N := some 30) (v := ?_) (a' := ?_) #[true, true, true, true, true, true, true, true, true, true, true, true, true, false] rfl rfl (any_of HT_.out (by kernel_rfl)) (fun _ _ _ h => h) (Or.inl ⟨by rfl, ?_⟩) ?_ ?_
       rotate_left
       ·intro w'
        go_simp
        with_reducible rfl
       rotate_left
       ·simp only [Act.put, List.setIfInBounds_toArray, List.set_cons_zero, List.set_cons_succ, i64_w, i32_w]
        rfl
       refine pure_ (i := 13) (N := some 31) (v := ?_) (a' := ?_) #[true, true, true, true, true, true, true, true, true, true, true, true, true, true] rfl rfl (any_of HT_.out (by kernel_rfl)) (fun _ _ _ h => h) (Or.inl ⟨by rfl, ?_⟩) ?_ ?_
       rotate_left
       ·intro w'
        go_simp
        with_reducible rfl
       rotate_left
       ·simp only [Act.put, List.setIfInBounds_toArray, List.set_cons_zero, List.set_cons_succ, i64_w, i32_w]
        rfl
       refine done_ (done_of HT_.out (by kernel_rfl)) ?_
       try go_wp2
       go_meet
       case rel => exact ⟨_, (((rdOf ByteArray.empty l0 0).toList != t181.toList)), (by first | rfl | (simp; done) | (simp [*]; done)), H', ⟨by have := HK1.out; first | omega | exact Nat.le_refl _⟩, ⟨by (with_reducible repeat (first | refine blk_drewN ?_ _ | refine blk_drew ?_ | refine blk_alloc ?_ _)); exact BK178.out⟩, ⟨by repeat (first | (with_reducible first | exact HB.out | apply below_alloc | apply pw_below_drewN | apply below_drew1 | refine below_set ?_ GE178.out) | exact HB.out)⟩⟩
      ·rw [if_neg c8] at H
       exact absurd H (by simp)
     ·rw [if_neg c7] at H
      have c7b0 : ((l0.length : Int) == (wrap64 ((t179.size : Int) + 1))) = false := beq_eq_false_iff_ne.mpr c7
      have c7b1 : ((l0.length : Int) != (wrap64 ((t179.size : Int) + 1))) = true := bne_iff_ne.mpr c7
      (first | rw [c7b0] | (simp only [i64_w, i32_w]; rw [c7b0]) | skip)
      have H' := Aside0.mk H
      clear H
      try go_wp2
      have n0_ := Aside0.mk (blk_drew BK178.out)
      have n1_ := Aside0.mk (below_drew1 HB.out)
      clear BK178
      clear HB
      have BK178 := n0_
      have HB := n1_
      clear n0_ n1_
      refine start_ (n := 14) (S := fun w' => True) (ds := []) #[false, false, false, false, false, false, false, false, false, false, false, false, false, false] (by kernel_rfl) rfl rfl trivial (fun hHeld => ?_); refine with_tabW barrowref24_step.tab5 barrowref24_step.bits5 (fun HT_ HW_ => ?_)
      generalize w6.drew = w12 at BK178 HB hHeld ⊢
      refine pure_ (i := 0) (N := some 18) (v := ?_) (a' := ?_) #[true, false, false, false, false, false, false, false, false, false, false, false, false, false] rfl rfl (any_of HT_.out (by kernel_rfl)) (fun _ _ _ h => h) (Or.inl ⟨by rfl, ?_⟩) ?_ ?_
      rotate_left
      ·intro w'
       go_simp
       with_reducible rfl
      rotate_left
      ·simp only [Act.put, List.setIfInBounds_toArray, List.set_cons_zero, List.set_cons_succ, i64_w, i32_w]
       rfl
      refine pure_ (i := 1) (N := some 19) (v := ?_) (a' := ?_) #[true, true, false, false, false, false, false, false, false, false, false, false, false, false] rfl rfl (any_of HT_.out (by kernel_rfl)) (fun _ _ _ h => h) (Or.inl ⟨by rfl, ?_⟩) ?_ ?_
      rotate_left
      ·intro w'
       go_simp
       with_reducible rfl
      rotate_left
      ·simp only [Act.put, List.setIfInBounds_toArray, List.set_cons_zero, List.set_cons_succ, i64_w, i32_w]
       rfl
      refine pure_ (i := 2) (N := some 20) (v := ?_) (a' := ?_) #[true, true, true, false, false, false, false, false, false, false, false, false, false, false] rfl rfl (any_of HT_.out (by kernel_rfl)) (fun _ _ _ h => h) (Or.inl ⟨by rfl, ?_⟩) ?_ ?_
      rotate_left
      ·intro w'
       go_simp
       with_reducible rfl
      rotate_left
      ·simp only [Act.put, List.setIfInBounds_toArray, List.set_cons_zero, List.set_cons_succ, i64_w, i32_w]
       rfl
      refine pure_ (i := 3) (N := some 21) (v := ?_) (a' := ?_) #[true, true, true, true, false, false, false, false, false, false, false, false, false, false] rfl rfl (any_of HT_.out (by kernel_rfl)) (fun _ _ _ h => h) (Or.inl ⟨by rfl, ?_⟩) ?_ ?_
      rotate_left
      ·intro w'
       go_simp
       with_reducible rfl
      rotate_left
      ·simp only [Act.put, List.setIfInBounds_toArray, List.set_cons_zero, List.set_cons_succ, i64_w, i32_w]
       rfl
      refine pure_ (i := 4) (N := some 22) (v := ?_) (a' := ?_) #[true, true, true, true, true, false, false, false, false, false, false, false, false, false] rfl rfl (any_of HT_.out (by kernel_rfl)) (fun _ _ _ h => h) (Or.inl ⟨by rfl, ?_⟩) ?_ ?_
      rotate_left
      ·intro w'
       go_simp
       with_reducible rfl
      rotate_left
      ·simp only [Act.put, List.setIfInBounds_toArray, List.set_cons_zero, List.set_cons_succ, i64_w, i32_w]
       rfl
      refine pure_ (i := 5) (N := some 23) (v := ?_) (a' := ?_) #[true, true, true, true, true, true, false, false, false, false, false, false, false, false] rfl rfl (any_of HT_.out (by kernel_rfl)) (fun _ _ _ h => h) (Or.inl ⟨by rfl, ?_⟩) ?_ ?_
      rotate_left
      ·intro w'
       go_simp
       with_reducible rfl
      rotate_left
      ·simp only [Act.put, List.setIfInBounds_toArray, List.set_cons_zero, List.set_cons_succ, i64_w, i32_w]
       rfl
      refine pure_ (i := 6) (N := some 24) (v := ?_) (a' := ?_) #[true, true, true, true, true, true, true, false, false, false, false, false, false, false] rfl rfl (any_of HT_.out (by kernel_rfl)) (fun _ _ _ h => h) (Or.inl ⟨by rfl, ?_⟩) ?_ ?_
      rotate_left
      ·intro w'
       go_simp
       with_reducible rfl
      rotate_left
      ·simp only [Act.put, List.setIfInBounds_toArray, List.set_cons_zero, List.set_cons_succ, i64_w, i32_w]
       rfl
      refine pure_ (i := 7) (N := some 25) (v := undef) (a' := ?_) #[true, true, true, true, true, true, true, true, false, false, false, false, false, false] rfl rfl (any_of HT_.out (by kernel_rfl)) (fun _ _ _ h => h) (Or.inr ⟨by rfl, rfl⟩) ?_ ?_
      rotate_left
      ·simp only [Act.put, List.setIfInBounds_toArray, List.set_cons_zero, List.set_cons_succ, i64_w, i32_w]
       rfl
      refine pure_ (i := 8) (N := some 26) (v := undef) (a' := ?_) #[true, true, true, true, true, true, true, true, true, false, false, false, false, false] rfl rfl (any_of HT_.out (by kernel_rfl)) (fun _ _ _ h => h) (Or.inr ⟨by rfl, rfl⟩) ?_ ?_
      rotate_left
      ·simp only [Act.put, List.setIfInBounds_toArray, List.set_cons_zero, List.set_cons_succ, i64_w, i32_w]
       rfl
      refine pure_ (i := 9) (N := some 27) (v := undef) (a' := ?_) #[true, true, true, true, true, true, true, true, true, true, false, false, false, false] rfl rfl (any_of HT_.out (by kernel_rfl)) (fun _ _ _ h => h) (Or.inr ⟨by rfl, rfl⟩) ?_ ?_
      rotate_left
      ·simp only [Act.put, List.setIfInBounds_toArray, List.set_cons_zero, List.set_cons_succ, i64_w, i32_w]
       rfl
      refine pure_ (i := 10) (N := some 28) (v := undef) (a' := ?_) #[true, true, true, true, true, true, true, true, true, true, true, false, false, false] rfl rfl (any_of HT_.out (by kernel_rfl)) (fun _ _ _ h => h) (Or.inr ⟨by rfl, rfl⟩) ?_ ?_
      rotate_left
      ·simp only [Act.put, List.setIfInBounds_toArray, List.set_cons_zero, List.set_cons_succ, i64_w, i32_w]
       rfl
      refine pure_ (i := 11) (N := some 29) (v := undef) (a' := ?_) #[true, true, true, true, true, true, true, true, true, true, true, true, false, false] rfl rfl (any_of HT_.out (by kernel_rfl)) (fun _ _ _ h => h) (Or.inr ⟨by rfl, rfl⟩) ?_ ?_
      rotate_left
      ·simp only [Act.put, List.setIfInBounds_toArray, List.set_cons_zero, List.set_cons_succ, i64_w, i32_w]
       rfl
      refine pure_ (i := 12) (N := some 30) (v := undef) (a' := ?_) #[true, true, true, true, true, true, true, true, true, true, true, true, true, false] rfl rfl (any_of HT_.out (by kernel_rfl)) (fun _ _ _ h => h) (Or.inr ⟨by rfl, rfl⟩) ?_ ?_
      rotate_left
      ·simp only [Act.put, List.setIfInBounds_toArray, List.set_cons_zero, List.set_cons_succ, i64_w, i32_w]
       rfl
      refine pure_ (i := 13) (N := some 31) (v := ?_) (a' := ?_) #[true, true, true, true, true, true, true, true, true, true, true, true, true, true] rfl rfl (any_of HT_.out (by kernel_rfl)) (fun _ _ _ h => h) (Or.inl ⟨by rfl, ?_⟩) ?_ ?_
      rotate_left
      ·intro w'
       go_simp
       with_reducible rfl
      rotate_left
      ·simp only [Act.put, List.setIfInBounds_toArray, List.set_cons_zero, List.set_cons_succ, i64_w, i32_w]
       rfl
      refine done_ (done_of HT_.out (by kernel_rfl)) ?_
      try go_wp2
      go_meet
      case rel => exact ⟨_, (true), (by first | rfl | (simp; done) | (simp [*]; done)), H', ⟨by have := HK1.out; first | omega | exact Nat.le_refl _⟩, ⟨by (with_reducible repeat (first | refine blk_drewN ?_ _ | refine blk_drew ?_ | refine blk_alloc ?_ _)); exact BK178.out⟩, ⟨by repeat (first | (with_reducible first | exact HB.out | apply below_alloc | apply pw_below_drewN | apply below_drew1 | refine below_set ?_ GE178.out) | exact HB.out)⟩⟩
    case rest =>
     clear HC5
     try clear p1
     try clear q1
     try clear hx1
     try clear qi1
     try clear p2
     try clear c3
     try clear c3b0
     try clear c4
     try clear c5
     try clear p6
     try clear c7
     try clear c7b0
     try clear c7b1
     try clear c8
     try clear c8b0
     try clear c8b1
     try clear hx180_0
     try clear p180
     try clear p2
     try clear q180
     obtain ⟨kq, x31_4, rfl, HA, HJ4, BK178, HB⟩ := hcut
     cases kq with
     | zero => exact absurd HA.out (by simp [barrowref24_step.j1])
     | succ kj4 =>
      have H := HA.out
      clear HA
      simp only [barrowref24_step.j1] at H
      by_cases c13 : x31_4 = true
      ·subst c13
       have H1 : (barrowref24_step.l0 kj4 l0 (wrap64 (x4_1 + 1))) = some (r1, r2, r3, r4, r5, r6, r7, r8) := by rw [if_pos rfl] at H; exact H
       clear H
       have H := H1
       clear H1
       have H' := Aside0.mk H
       clear H
       go_wp2
       go_roundg kj4
       case measure => have := HK1.out; have := HJ4.out; omega
       case rel => exact ⟨(wrap64 (x4_1 + 1)), (x179000_1), (x179001_1), (x179002_1), (x179003_1), (x179004_1), (x179005_1), (x179006_1), (by first | rfl | (simp; done) | (simp [*]; done)), H', ⟨by have := HK1.out; have := HJ4.out; omega⟩, ⟨by (with_reducible repeat (first | refine blk_drewN ?_ _ | refine blk_drew ?_ | refine blk_alloc ?_ _)); exact BK178.out⟩, ⟨by repeat (first | (with_reducible first | exact HB.out | apply below_alloc | apply pw_below_drewN | apply below_drew1 | refine below_set ?_ GE178.out) | exact HB.out)⟩⟩
      ·replace c13 := Bool.eq_false_iff.mpr c13
       subst c13
       have H1 : (barrowref24_step.l1 kj4 l0 x4_1 t179 0 x4_1 0 0 0 (⟨#[]⟩ : ByteArray) 0 0) = some (r1, r2, r3, r4, r5, r6, r7, r8) := by rw [if_neg (show ¬ (false = true) by decide)] at H; exact H
       clear H
       have H := H1
       clear H1
       have H' := Aside0.mk H
       clear H
       go_wp2_with (first | ((with_reducible refine gate_dst (N := 6) rfl ?_); refine box_event ?hg (N := 6) ?hd (cs := #[.int .i64 0, .int .i64 0, .int .i64 0, .int .i64 0, .string (⟨#[]⟩ : ByteArray), .int .i64 0, .int .i64 0]) (t := 29) ?hr ?_; (case hd => rfl); (case hg => rfl); (case hr => first | (go_simp; done) | (go_simp; rfl)); intro gb182 hg w14 hbox hb; have n0_ := Aside0.mk (blk_below (g := gb178) (o := .cells #[.int .i64 x179000_1, .int .i64 x179001_1, .int .i64 x179002_1, .int .i64 x179003_1, .string x179004_1, .int .i64 x179005_1, .int .i64 x179006_1] 29 (0, 0)) (by (with_reducible repeat (first | refine blk_drewN ?_ _ | refine blk_drew ?_ | refine blk_alloc ?_ _)); exact BK178.out) hb); have n1_ := Aside0.mk (below_step (by repeat (first | (with_reducible first | exact HB.out | apply below_alloc | apply pw_below_drewN | apply below_drew1 | refine below_set ?_ GE178.out) | exact HB.out)) hb); have n2_ := Aside0.mk (hbox); have n3_ := Aside0.mk ((by rw [hg]; exact (below_size (by repeat (first | (with_reducible first | exact HB.out | apply below_alloc | apply pw_below_drewN | apply below_drew1 | refine below_set ?_ GE178.out) | exact HB.out))) : w.heap.size ≤ gb182)); have n4_ := Aside0.mk ((by rw [hg]; exact (below_size (by repeat (first | (with_reducible first | exact HB.out | apply below_alloc | apply pw_below_drewN | apply below_drew1 | refine below_set ?_ GE178.out) | exact HB.out))) : w.heap.size ≤ gb182)); have n5_ := Aside0.mk ((by rw [hg]; exact Nat.ne_of_lt (blk_lt (g := gb178) (o := .cells #[.int .i64 x179000_1, .int .i64 x179001_1, .int .i64 x179002_1, .int .i64 x179003_1, .string x179004_1, .int .i64 x179005_1, .int .i64 x179006_1] 29 (0, 0)) (by (with_reducible repeat (first | refine blk_drewN ?_ _ | refine blk_drew ?_ | refine blk_alloc ?_ _)); exact BK178.out)) : gb178 ≠ gb182)); have n6_ := Aside0.mk ((by rw [hg]; exact Nat.ne_of_gt (blk_lt (g := gb178) (o := .cells #[.int .i64 x179000_1, .int .i64 x179001_1, .int .i64 x179002_1, .int .i64 x179003_1, .string x179004_1, .int .i64 x179005_1, .int .i64 x179006_1] 29 (0, 0)) (by (with_reducible repeat (first | refine blk_drewN ?_ _ | refine blk_drew ?_ | refine blk_alloc ?_ _)); exact BK178.out)) : gb182 ≠ gb178)); clear BK178; clear HB; have BK178 := n0_; have HB := n1_; have BK182 := n2_; have GW182 := n3_; have GE182 := n4_; have NB178_182 := n5_; have NB182_178 := n6_; clear n0_ n1_ n2_ n3_ n4_ n5_ n6_; clear hb hbox hg; have hnb15 := NB182_178.out; have hnc15 := NB178_182.out; have hcz16_0 : w14.cell? ⟨gb182, 0, none⟩ = some (.int .i64 0) := (blk_cell BK182.out 0).trans rfl; have hcz16_1 : w14.cell? ⟨gb182, 1, none⟩ = some (.int .i64 0) := (blk_cell BK182.out 1).trans rfl; have hcz16_2 : w14.cell? ⟨gb182, 2, none⟩ = some (.int .i64 0) := (blk_cell BK182.out 2).trans rfl; have hcz16_3 : w14.cell? ⟨gb182, 3, none⟩ = some (.int .i64 0) := (blk_cell BK182.out 3).trans rfl; have hcz16_4 : w14.cell? ⟨gb182, 4, none⟩ = some (.string (⟨#[]⟩ : ByteArray)) := (blk_cell BK182.out 4).trans rfl; have hcz16_5 : w14.cell? ⟨gb182, 5, none⟩ = some (.int .i64 0) := (blk_cell BK182.out 5).trans rfl; have hcz16_6 : w14.cell? ⟨gb182, 6, none⟩ = some (.int .i64 0) := (blk_cell BK182.out 6).trans rfl; have hfz16_0 := blk_frozen BK182.out 0; have hfz16_1 := blk_frozen BK182.out 1; have hfz16_2 := blk_frozen BK182.out 2; have hfz16_3 := blk_frozen BK182.out 3; have hfz16_4 := blk_frozen BK182.out 4; have hfz16_5 := blk_frozen BK182.out 5; have hfz16_6 := blk_frozen BK182.out 6))
       go_loopg [7] kj4 (fun kq v7 w' => ∃ (x7_3 : Int) (x179000_3 : Int) (x179001_3 : Int) (x179002_3 : Int) (x179003_3 : Int) (x179004_3 : ByteArray) (x179005_3 : Int) (x179006_3 : Int) (x183000_3 : Int) (x183001_3 : Int) (x183002_3 : Int) (x183003_3 : Int) (x183004_3 : ByteArray) (x183005_3 : Int) (x183006_3 : Int), v7 = .int .i64 x7_3 ∧ Aside0 (barrowref24_step.l1 kq l0 x4_1 t179 x7_3 x183000_3 x183001_3 x183002_3 x183003_3 x183004_3 x183005_3 x183006_3 = some (r1, r2, r3, r4, r5, r6, r7, r8)) ∧ Aside0 (kq ≤ kj4) ∧ Aside0 (w'.heap[gb178]? = some (.cells #[.int .i64 x179000_3, .int .i64 x179001_3, .int .i64 x179002_3, .int .i64 x179003_3, .string x179004_3, .int .i64 x179005_3, .int .i64 x179006_3] 29 (0, 0))) ∧ Aside0 (w'.heap[gb182]? = some (.cells #[.int .i64 x183000_3, .int .i64 x183001_3, .int .i64 x183002_3, .int .i64 x183003_3, .string x183004_3, .int .i64 x183005_3, .int .i64 x183006_3] 29 (0, 0))) ∧ Aside0 (Below w.heap.size w w'))
       case atStart => exact ⟨(0), (x179000_1), (x179001_1), (x179002_1), (x179003_1), (x179004_1), (x179005_1), (x179006_1), (x4_1), (0), (0), (0), ((⟨#[]⟩ : ByteArray)), (0), (0), (by first | rfl | (simp; done) | (simp [*]; done)), H', ⟨Nat.le_refl _⟩, ⟨by (with_reducible repeat (first | refine blk_drewN ?_ _ | refine blk_drew ?_ | refine blk_alloc ?_ _)); refine blk_far ?_ NB178_182.out _; (with_reducible repeat (first | refine blk_drewN ?_ _ | refine blk_drew ?_ | refine blk_alloc ?_ _)); refine blk_far ?_ NB178_182.out _; (with_reducible repeat (first | refine blk_drewN ?_ _ | refine blk_drew ?_ | refine blk_alloc ?_ _)); refine blk_far ?_ NB178_182.out _; (with_reducible repeat (first | refine blk_drewN ?_ _ | refine blk_drew ?_ | refine blk_alloc ?_ _)); refine blk_far ?_ NB178_182.out _; (with_reducible repeat (first | refine blk_drewN ?_ _ | refine blk_drew ?_ | refine blk_alloc ?_ _)); refine blk_far ?_ NB178_182.out _; (with_reducible repeat (first | refine blk_drewN ?_ _ | refine blk_drew ?_ | refine blk_alloc ?_ _)); refine blk_far ?_ NB178_182.out _; (with_reducible repeat (first | refine blk_drewN ?_ _ | refine blk_drew ?_ | refine blk_alloc ?_ _)); refine blk_far ?_ NB178_182.out _; (with_reducible repeat (first | refine blk_drewN ?_ _ | refine blk_drew ?_ | refine blk_alloc ?_ _)); exact BK178.out⟩, ⟨by (with_reducible repeat (first | refine blk_drewN ?_ _ | refine blk_drew ?_ | refine blk_alloc ?_ _)); refine blk_put (cs := #[.int .i64 x4_1, .int .i64 0, .int .i64 0, .int .i64 0, .string (⟨#[]⟩ : ByteArray), .int .i64 0, .int .i64 0]) ?_ 6 _ rfl; (with_reducible repeat (first | refine blk_drewN ?_ _ | refine blk_drew ?_ | refine blk_alloc ?_ _)); refine blk_put (cs := #[.int .i64 x4_1, .int .i64 0, .int .i64 0, .int .i64 0, .string (⟨#[]⟩ : ByteArray), .int .i64 0, .int .i64 0]) ?_ 5 _ rfl; (with_reducible repeat (first | refine blk_drewN ?_ _ | refine blk_drew ?_ | refine blk_alloc ?_ _)); refine blk_put (cs := #[.int .i64 x4_1, .int .i64 0, .int .i64 0, .int .i64 0, .string (⟨#[]⟩ : ByteArray), .int .i64 0, .int .i64 0]) ?_ 4 _ rfl; (with_reducible repeat (first | refine blk_drewN ?_ _ | refine blk_drew ?_ | refine blk_alloc ?_ _)); refine blk_put (cs := #[.int .i64 x4_1, .int .i64 0, .int .i64 0, .int .i64 0, .string (⟨#[]⟩ : ByteArray), .int .i64 0, .int .i64 0]) ?_ 3 _ rfl; (with_reducible repeat (first | refine blk_drewN ?_ _ | refine blk_drew ?_ | refine blk_alloc ?_ _)); refine blk_put (cs := #[.int .i64 x4_1, .int .i64 0, .int .i64 0, .int .i64 0, .string (⟨#[]⟩ : ByteArray), .int .i64 0, .int .i64 0]) ?_ 2 _ rfl; (with_reducible repeat (first | refine blk_drewN ?_ _ | refine blk_drew ?_ | refine blk_alloc ?_ _)); refine blk_put (cs := #[.int .i64 x4_1, .int .i64 0, .int .i64 0, .int .i64 0, .string (⟨#[]⟩ : ByteArray), .int .i64 0, .int .i64 0]) ?_ 1 _ rfl; (with_reducible repeat (first | refine blk_drewN ?_ _ | refine blk_drew ?_ | refine blk_alloc ?_ _)); refine blk_put (cs := #[.int .i64 0, .int .i64 0, .int .i64 0, .int .i64 0, .string (⟨#[]⟩ : ByteArray), .int .i64 0, .int .i64 0]) ?_ 0 _ rfl; (with_reducible repeat (first | refine blk_drewN ?_ _ | refine blk_drew ?_ | refine blk_alloc ?_ _)); exact BK182.out⟩, ⟨by repeat (first | (with_reducible first | exact HB.out | apply below_alloc | apply pw_below_drewN | apply below_drew1 | refine below_set ?_ GE178.out | refine below_set ?_ GE182.out) | exact HB.out)⟩⟩
       case round =>
        clear H'
        try clear c1
        try clear p1
        try clear q1
        try clear hx1
        try clear qi1
        try clear p2
        try clear c3
        try clear c3b0
        try clear c4
        try clear c5
        try clear p6
        try clear c7
        try clear c7b0
        try clear c7b1
        try clear c8
        try clear c8b0
        try clear c8b1
        try clear c13
        try clear c15
        try clear hcz16_0
        try clear hcz16_1
        try clear hcz16_2
        try clear hcz16_3
        try clear hcz16_4
        try clear hcz16_5
        try clear hcz16_6
        try clear hfz16_0
        try clear hfz16_1
        try clear hfz16_2
        try clear hfz16_3
        try clear hfz16_4
        try clear hfz16_5
        try clear hfz16_6
        try clear hx180_0
        try clear p1
        try clear p180
        try clear p2
        try clear p6
        try clear q1
        try clear q180
        obtain ⟨x7_3, x179000_3, x179001_3, x179002_3, x179003_3, x179004_3, x179005_3, x179006_3, x183000_3, x183001_3, x183002_3, x183003_3, x183004_3, x183005_3, x183006_3, rfl, HA, HK3, BK178, BK182, HB⟩ := hrel
        cases gk with
        | zero => exact absurd HA.out (by simp [barrowref24_step.l1])
        | succ k3 =>
         have H := HA.out
         clear HA
         simp only [barrowref24_step.l1] at H
         by_cases c17 : x7_3 < (t179.size : Int)
         ·rw [if_pos c17] at H
          have c17b0 : decide (x7_3 < (t179.size : Int)) = true := decide_eq_true c17
          clear c17
          by_cases c18 : 0 ≤ x7_3
          ·rw [if_pos c18] at H
           have c18b0 : decide (0 ≤ x7_3) = true := decide_eq_true c18
           clear c18
           by_cases c20 : (bt t179 x7_3) = 83
           ·rw [if_pos c20] at H
            have c20b0 : ((bt t179 x7_3) == 83) = true := beq_iff_eq.mpr c20
            have c20b1 : ((bt t179 x7_3) != 83) = false := bne_eq_false_iff_eq.mpr c20
            clear c20
            obtain ⟨ji21, hji21⟩ : ∃ j_ : Int, (wrap64 (x7_3 + 1)) = j_ := ⟨_, rfl⟩
            replace H : (if 0 ≤ (ji21) then (if (ji21) < (l0.length : Int) then ((barrowref24_skuOf.f k3 (rdOf ByteArray.empty l0 (ji21))).bind fun bt184 => (if bt184.2 = true then (barrowref24_step.l1 k3 l0 x4_1 t179 ji21 x183000_3 x183001_3 x183002_3 x183003_3 bt184.1 x183005_3 x183006_3) else (some (0, 0, 0, 0, (⟨#[]⟩ : ByteArray), 0, 0, false)))) else (none)) else (none)) = some (r1, r2, r3, r4, r5, r6, r7, r8) := by first | (rw [hji21] at H; exact H) | (simp only [hji21] at H ⊢; exact H)
            have hji21w : (IntKind.i64.wrap (x7_3 + 1)) = ji21 := (i64_w _).trans hji21
            by_cases c22 : 0 ≤ (ji21)
            ·rw [if_pos c22] at H
             have c22b0 : decide (0 ≤ (ji21)) = true := decide_eq_true c22
             clear c22
             by_cases c23 : (ji21) < (l0.length : Int)
             ·rw [if_pos c23] at H
              have c23b0 : decide ((ji21) < (l0.length : Int)) = true := decide_eq_true c23
              clear c23
              replace H := Option.bind_eq_some_iff.mp H
              obtain ⟨⟨t184, t185⟩, A240, H⟩ := H
              replace H : (if t185 = true then (barrowref24_step.l1 k3 l0 x4_1 t179 ji21 x183000_3 x183001_3 x183002_3 x183003_3 t184 x183005_3 x183006_3) else (some (0, 0, 0, 0, (⟨#[]⟩ : ByteArray), 0, 0, false))) = some (r1, r2, r3, r4, r5, r6, r7, r8) := H
              have A24 := Aside0.mk A240
              clear A240
              by_cases c25 : t185 = true
              ·subst c25
               have H1 : (barrowref24_step.l1 k3 l0 x4_1 t179 ji21 x183000_3 x183001_3 x183002_3 x183003_3 t184 x183005_3 x183006_3) = some (r1, r2, r3, r4, r5, r6, r7, r8) := by rw [if_pos rfl] at H; exact H
               clear H
               have H := H1
               clear H1
               have H' := Aside0.mk H
               clear H
               have p19 : 0 ≤ (x7_3 : Int) := of_decide_eq_true (by first | (with_reducible assumption) | assumption)
               have q19 : x7_3 < (t179.size : Int) := of_decide_eq_true (by first | (with_reducible assumption) | assumption)
               have hx19 := bt_at t179 x7_3
               replace p19 := eq_true p19
               replace q19 := eq_true q19
               have p183 : 0 ≤ ((ji21) : Int) := of_decide_eq_true (by first | (with_reducible assumption) | assumption)
               have q183 : (ji21) < (l0.length : Int) := of_decide_eq_true (by first | (with_reducible assumption) | assumption)
               obtain ⟨ad183, e183, hx183_0⟩ := Kd.at_string HR0.out (ji21) p183 q183
               cases e183
               replace hx183_0 := (HB.out.cell (World.block_lt_of_cell? w _ hx183_0)).trans hx183_0
               replace p183 := eq_true p183
               replace q183 := eq_true q183
               go_wp2_with (first | ((with_reducible refine gate_callee (f := 61) rfl ?_); refine goesL_ (some 50) rfl rfl Tryd.func61 (by kernel_rfl) rfl #[.string (rdOf ByteArray.empty l0 (ji21))] rfl (by (try simp only [List.map_toArray, List.map_cons, List.map_nil]); first | done | (simp only [hji21]; rfl) | rfl | (simp only [List.length_drop, List.length_take]; rfl)) ?_; (with_reducible refine (barrowref24_skuOf.calls k3 (rdOf ByteArray.empty l0 (ji21)) t184 true _ A24.out).mono ?_); rintro e w26 ⟨rfl, hb⟩; refine ⟨_, rfl, ?_⟩; have n0_ := Aside0.mk (blk_below (g := gb178) (o := .cells #[.int .i64 x179000_3, .int .i64 x179001_3, .int .i64 x179002_3, .int .i64 x179003_3, .string x179004_3, .int .i64 x179005_3, .int .i64 x179006_3] 29 (0, 0)) (by (with_reducible repeat (first | refine blk_drewN ?_ _ | refine blk_drew ?_ | refine blk_alloc ?_ _)); exact BK178.out) hb); have n1_ := Aside0.mk (blk_below (g := gb182) (o := .cells #[.int .i64 x183000_3, .int .i64 x183001_3, .int .i64 x183002_3, .int .i64 x183003_3, .string x183004_3, .int .i64 x183005_3, .int .i64 x183006_3] 29 (0, 0)) (by (with_reducible repeat (first | refine blk_drewN ?_ _ | refine blk_drew ?_ | refine blk_alloc ?_ _)); exact BK182.out) hb); have n2_ := Aside0.mk (below_step (by repeat (first | (with_reducible first | exact HB.out | apply below_alloc | apply pw_below_drewN | apply below_drew1 | refine below_set ?_ GE178.out | refine below_set ?_ GE182.out) | exact HB.out)) hb); clear BK178; clear BK182; clear HB; have BK178 := n0_; have BK182 := n1_; have HB := n2_; clear n0_ n1_ n2_; (try clear hb); (try clear hb2); (try clear hk); (try clear hi); have hnb27 := NB182_178.out; have hnc27 := NB178_182.out; have hcz28_0 : w26.cell? ⟨gb182, 0, none⟩ = some (.int .i64 x183000_3) := (blk_cell BK182.out 0).trans rfl; have hcz28_1 : w26.cell? ⟨gb182, 1, none⟩ = some (.int .i64 x183001_3) := (blk_cell BK182.out 1).trans rfl; have hcz28_2 : w26.cell? ⟨gb182, 2, none⟩ = some (.int .i64 x183002_3) := (blk_cell BK182.out 2).trans rfl; have hcz28_3 : w26.cell? ⟨gb182, 3, none⟩ = some (.int .i64 x183003_3) := (blk_cell BK182.out 3).trans rfl; have hcz28_4 : w26.cell? ⟨gb182, 4, none⟩ = some (.string x183004_3) := (blk_cell BK182.out 4).trans rfl; have hcz28_5 : w26.cell? ⟨gb182, 5, none⟩ = some (.int .i64 x183005_3) := (blk_cell BK182.out 5).trans rfl; have hcz28_6 : w26.cell? ⟨gb182, 6, none⟩ = some (.int .i64 x183006_3) := (blk_cell BK182.out 6).trans rfl; have hfz28_0 := blk_frozen BK182.out 0; have hfz28_1 := blk_frozen BK182.out 1; have hfz28_2 := blk_frozen BK182.out 2; have hfz28_3 := blk_frozen BK182.out 3; have hfz28_4 := blk_frozen BK182.out 4; have hfz28_5 := blk_frozen BK182.out 5; have hfz28_6 := blk_frozen BK182.out 6))
               go_roundg k3
               case measure => have := HK1.out; have := HJ4.out; have := HK3.out; omega
               case rel => exact ⟨(ji21), (x179000_3), (x179001_3), (x179002_3), (x179003_3), (x179004_3), (x179005_3), (x179006_3), (x183000_3), (x183001_3), (x183002_3), (x183003_3), (t184), (x183005_3), (x183006_3), (by first | rfl | (simp; done) | (simp only [← hji21] <;> (first | rfl | simp)) | (simp [*]; done)), H', ⟨by have := HK1.out; have := HJ4.out; have := HK3.out; omega⟩, ⟨by (with_reducible repeat (first | refine blk_drewN ?_ _ | refine blk_drew ?_ | refine blk_alloc ?_ _)); refine blk_far ?_ NB178_182.out _; (with_reducible repeat (first | refine blk_drewN ?_ _ | refine blk_drew ?_ | refine blk_alloc ?_ _)); exact BK178.out⟩, ⟨by (with_reducible repeat (first | refine blk_drewN ?_ _ | refine blk_drew ?_ | refine blk_alloc ?_ _)); refine blk_put (cs := #[.int .i64 x183000_3, .int .i64 x183001_3, .int .i64 x183002_3, .int .i64 x183003_3, .string x183004_3, .int .i64 x183005_3, .int .i64 x183006_3]) ?_ 4 _ rfl; (with_reducible repeat (first | refine blk_drewN ?_ _ | refine blk_drew ?_ | refine blk_alloc ?_ _)); exact BK182.out⟩, ⟨by repeat (first | (with_reducible first | exact HB.out | apply below_alloc | apply pw_below_drewN | apply below_drew1 | refine below_set ?_ GE178.out | refine below_set ?_ GE182.out) | exact HB.out)⟩⟩
              ·replace c25 := Bool.eq_false_iff.mpr c25
               subst c25
               have H1 : (some (0, 0, 0, 0, (⟨#[]⟩ : ByteArray), 0, 0, false)) = some (r1, r2, r3, r4, r5, r6, r7, r8) := by rw [if_neg (show ¬ (false = true) by decide)] at H; exact H
               clear H
               have H := H1
               clear H1
               simp only [Option.some.injEq, Prod.mk.injEq] at H
               obtain ⟨rfl, rfl, rfl, rfl, rfl, rfl, rfl, rfl⟩ := H
               have p19 : 0 ≤ (x7_3 : Int) := of_decide_eq_true (by first | (with_reducible assumption) | assumption)
               have q19 : x7_3 < (t179.size : Int) := of_decide_eq_true (by first | (with_reducible assumption) | assumption)
               have hx19 := bt_at t179 x7_3
               replace p19 := eq_true p19
               replace q19 := eq_true q19
               have p183 : 0 ≤ ((ji21) : Int) := of_decide_eq_true (by first | (with_reducible assumption) | assumption)
               have q183 : (ji21) < (l0.length : Int) := of_decide_eq_true (by first | (with_reducible assumption) | assumption)
               obtain ⟨ad183, e183, hx183_0⟩ := Kd.at_string HR0.out (ji21) p183 q183
               cases e183
               replace hx183_0 := (HB.out.cell (World.block_lt_of_cell? w _ hx183_0)).trans hx183_0
               replace p183 := eq_true p183
               replace q183 := eq_true q183
               go_wp2_with (first | ((with_reducible refine gate_callee (f := 61) rfl ?_); refine goesL_ (some 50) rfl rfl Tryd.func61 (by kernel_rfl) rfl #[.string (rdOf ByteArray.empty l0 (ji21))] rfl (by (try simp only [List.map_toArray, List.map_cons, List.map_nil]); first | done | (simp only [hji21]; rfl) | rfl | (simp only [List.length_drop, List.length_take]; rfl)) ?_; (with_reducible refine (barrowref24_skuOf.calls k3 (rdOf ByteArray.empty l0 (ji21)) t184 false _ A24.out).mono ?_); rintro e w29 ⟨rfl, hb⟩; refine ⟨_, rfl, ?_⟩; have n0_ := Aside0.mk (blk_below (g := gb178) (o := .cells #[.int .i64 x179000_3, .int .i64 x179001_3, .int .i64 x179002_3, .int .i64 x179003_3, .string x179004_3, .int .i64 x179005_3, .int .i64 x179006_3] 29 (0, 0)) (by (with_reducible repeat (first | refine blk_drewN ?_ _ | refine blk_drew ?_ | refine blk_alloc ?_ _)); exact BK178.out) hb); have n1_ := Aside0.mk (blk_below (g := gb182) (o := .cells #[.int .i64 x183000_3, .int .i64 x183001_3, .int .i64 x183002_3, .int .i64 x183003_3, .string x183004_3, .int .i64 x183005_3, .int .i64 x183006_3] 29 (0, 0)) (by (with_reducible repeat (first | refine blk_drewN ?_ _ | refine blk_drew ?_ | refine blk_alloc ?_ _)); exact BK182.out) hb); have n2_ := Aside0.mk (below_step (by repeat (first | (with_reducible first | exact HB.out | apply below_alloc | apply pw_below_drewN | apply below_drew1 | refine below_set ?_ GE178.out | refine below_set ?_ GE182.out) | exact HB.out)) hb); clear BK178; clear BK182; clear HB; have BK178 := n0_; have BK182 := n1_; have HB := n2_; clear n0_ n1_ n2_; (try clear hb); (try clear hb2); (try clear hk); (try clear hi); have hnb30 := NB178_182.out; have hnc30 := NB182_178.out; have hcz31_0 : w29.cell? ⟨gb178, 0, none⟩ = some (.int .i64 x179000_3) := (blk_cell BK178.out 0).trans rfl; have hcz31_1 : w29.cell? ⟨gb178, 1, none⟩ = some (.int .i64 x179001_3) := (blk_cell BK178.out 1).trans rfl; have hcz31_2 : w29.cell? ⟨gb178, 2, none⟩ = some (.int .i64 x179002_3) := (blk_cell BK178.out 2).trans rfl; have hcz31_3 : w29.cell? ⟨gb178, 3, none⟩ = some (.int .i64 x179003_3) := (blk_cell BK178.out 3).trans rfl; have hcz31_4 : w29.cell? ⟨gb178, 4, none⟩ = some (.string x179004_3) := (blk_cell BK178.out 4).trans rfl; have hcz31_5 : w29.cell? ⟨gb178, 5, none⟩ = some (.int .i64 x179005_3) := (blk_cell BK178.out 5).trans rfl; have hcz31_6 : w29.cell? ⟨gb178, 6, none⟩ = some (.int .i64 x179006_3) := (blk_cell BK178.out 6).trans rfl; have hfz31_0 := blk_frozen BK178.out 0; have hfz31_1 := blk_frozen BK178.out 1; have hfz31_2 := blk_frozen BK178.out 2; have hfz31_3 := blk_frozen BK178.out 3; have hfz31_4 := blk_frozen BK178.out 4; have hfz31_5 := blk_frozen BK178.out 5; have hfz31_6 := blk_frozen BK178.out 6))
               refine bodyPost_ret (results_ct rfl _ _ gb178 29 #[.int .i64 0, .int .i64 0, .int .i64 0, .int .i64 0, .string (⟨#[]⟩ : ByteArray), .int .i64 0, .int .i64 0] (0, 0) _ rfl (by (with_reducible repeat (first | refine blk_drewN ?_ _ | refine blk_drew ?_ | refine blk_alloc ?_ _)); refine blk_put (cs := #[.int .i64 0, .int .i64 0, .int .i64 0, .int .i64 0, .string (⟨#[]⟩ : ByteArray), .int .i64 0, .int .i64 x179006_3]) ?_ 6 _ rfl; (with_reducible repeat (first | refine blk_drewN ?_ _ | refine blk_drew ?_ | refine blk_alloc ?_ _)); refine blk_put (cs := #[.int .i64 0, .int .i64 0, .int .i64 0, .int .i64 0, .string (⟨#[]⟩ : ByteArray), .int .i64 x179005_3, .int .i64 x179006_3]) ?_ 5 _ rfl; (with_reducible repeat (first | refine blk_drewN ?_ _ | refine blk_drew ?_ | refine blk_alloc ?_ _)); refine blk_put (cs := #[.int .i64 0, .int .i64 0, .int .i64 0, .int .i64 0, .string x179004_3, .int .i64 x179005_3, .int .i64 x179006_3]) ?_ 4 _ rfl; (with_reducible repeat (first | refine blk_drewN ?_ _ | refine blk_drew ?_ | refine blk_alloc ?_ _)); refine blk_put (cs := #[.int .i64 0, .int .i64 0, .int .i64 0, .int .i64 x179003_3, .string x179004_3, .int .i64 x179005_3, .int .i64 x179006_3]) ?_ 3 _ rfl; (with_reducible repeat (first | refine blk_drewN ?_ _ | refine blk_drew ?_ | refine blk_alloc ?_ _)); refine blk_put (cs := #[.int .i64 0, .int .i64 0, .int .i64 x179002_3, .int .i64 x179003_3, .string x179004_3, .int .i64 x179005_3, .int .i64 x179006_3]) ?_ 2 _ rfl; (with_reducible repeat (first | refine blk_drewN ?_ _ | refine blk_drew ?_ | refine blk_alloc ?_ _)); refine blk_put (cs := #[.int .i64 0, .int .i64 x179001_3, .int .i64 x179002_3, .int .i64 x179003_3, .string x179004_3, .int .i64 x179005_3, .int .i64 x179006_3]) ?_ 1 _ rfl; (with_reducible repeat (first | refine blk_drewN ?_ _ | refine blk_drew ?_ | refine blk_alloc ?_ _)); refine blk_put (cs := #[.int .i64 x179000_3, .int .i64 x179001_3, .int .i64 x179002_3, .int .i64 x179003_3, .string x179004_3, .int .i64 x179005_3, .int .i64 x179006_3]) ?_ 0 _ rfl; (with_reducible repeat (first | refine blk_drewN ?_ _ | refine blk_drew ?_ | refine blk_alloc ?_ _)); exact BK178.out) Tryd.underlying29 rfl (by kernel_rfl)) rfl ?_
               exact ⟨by first | rfl | (simp [errW_none, errW_some] <;> rfl) | (simp only [← hji21]; first | rfl | (simp [errW_none, errW_some] <;> rfl)) | (simp [*, errW_none, errW_some] <;> rfl), by repeat (first | (with_reducible first | exact HB.out | apply below_alloc | apply pw_below_drewN | apply below_drew1 | refine below_set ?_ GE178.out | refine below_set ?_ GE182.out) | exact HB.out)⟩
             ·rw [if_neg c23] at H
              exact absurd H (by simp)
            ·rw [if_neg c22] at H
             exact absurd H (by simp)
           ·rw [if_neg c20] at H
            have c20b0 : ((bt t179 x7_3) == 83) = false := beq_eq_false_iff_ne.mpr c20
            have c20b1 : ((bt t179 x7_3) != 83) = true := bne_iff_ne.mpr c20
            obtain ⟨ji32, hji32⟩ : ∃ j_ : Int, (wrap64 (x7_3 + 1)) = j_ := ⟨_, rfl⟩
            replace H : (if 0 ≤ (ji32) then (if (ji32) < (l0.length : Int) then ((barrowref24_numberOf.f k3 (rdOf ByteArray.empty l0 (ji32))).bind fun bt187 => (if bt187.2 = true then ((barrowref24_with.f x183000_3 x183001_3 x183002_3 x183003_3 x183004_3 x183005_3 x183006_3 (bt t179 x7_3) bt187.1).bind fun bt189 => (barrowref24_step.l1 k3 l0 x4_1 t179 ji32 bt189.1 bt189.2.1 bt189.2.2.1 bt189.2.2.2.1 bt189.2.2.2.2.1 bt189.2.2.2.2.2.1 bt189.2.2.2.2.2.2)) else (some (0, 0, 0, 0, (⟨#[]⟩ : ByteArray), 0, 0, false)))) else (none)) else (none)) = some (r1, r2, r3, r4, r5, r6, r7, r8) := by first | (rw [hji32] at H; exact H) | (simp only [hji32] at H ⊢; exact H)
            have hji32w : (IntKind.i64.wrap (x7_3 + 1)) = ji32 := (i64_w _).trans hji32
            by_cases c33 : 0 ≤ (ji32)
            ·rw [if_pos c33] at H
             have c33b0 : decide (0 ≤ (ji32)) = true := decide_eq_true c33
             clear c33
             by_cases c34 : (ji32) < (l0.length : Int)
             ·rw [if_pos c34] at H
              have c34b0 : decide ((ji32) < (l0.length : Int)) = true := decide_eq_true c34
              clear c34
              replace H := Option.bind_eq_some_iff.mp H
              obtain ⟨⟨t187, t188⟩, A350, H⟩ := H
              replace H : (if t188 = true then ((barrowref24_with.f x183000_3 x183001_3 x183002_3 x183003_3 x183004_3 x183005_3 x183006_3 (bt t179 x7_3) t187).bind fun bt189 => (barrowref24_step.l1 k3 l0 x4_1 t179 ji32 bt189.1 bt189.2.1 bt189.2.2.1 bt189.2.2.2.1 bt189.2.2.2.2.1 bt189.2.2.2.2.2.1 bt189.2.2.2.2.2.2)) else (some (0, 0, 0, 0, (⟨#[]⟩ : ByteArray), 0, 0, false))) = some (r1, r2, r3, r4, r5, r6, r7, r8) := H
              have A35 := Aside0.mk A350
              clear A350
              by_cases c36 : t188 = true
              ·subst c36
               have H1 : ((barrowref24_with.f x183000_3 x183001_3 x183002_3 x183003_3 x183004_3 x183005_3 x183006_3 (bt t179 x7_3) t187).bind fun bt189 => (barrowref24_step.l1 k3 l0 x4_1 t179 ji32 bt189.1 bt189.2.1 bt189.2.2.1 bt189.2.2.2.1 bt189.2.2.2.2.1 bt189.2.2.2.2.2.1 bt189.2.2.2.2.2.2)) = some (r1, r2, r3, r4, r5, r6, r7, r8) := by rw [if_pos rfl] at H; exact H
               clear H
               have H := H1
               clear H1
               replace H := Option.bind_eq_some_iff.mp H
               obtain ⟨⟨t189, t190, t191, t192, t193, t194, t195⟩, A380, H⟩ := H
               replace H : (barrowref24_step.l1 k3 l0 x4_1 t179 ji32 t189 t190 t191 t192 t193 t194 t195) = some (r1, r2, r3, r4, r5, r6, r7, r8) := H
               have A38 := Aside0.mk A380
               clear A380
               have H' := Aside0.mk H
               clear H
               have p19 : 0 ≤ (x7_3 : Int) := of_decide_eq_true (by first | (with_reducible assumption) | assumption)
               have q19 : x7_3 < (t179.size : Int) := of_decide_eq_true (by first | (with_reducible assumption) | assumption)
               have hx19 := bt_at t179 x7_3
               replace p19 := eq_true p19
               replace q19 := eq_true q19
               have p186 : 0 ≤ ((ji32) : Int) := of_decide_eq_true (by first | (with_reducible assumption) | assumption)
               have q186 : (ji32) < (l0.length : Int) := of_decide_eq_true (by first | (with_reducible assumption) | assumption)
               obtain ⟨ad186, e186, hx186_0⟩ := Kd.at_string HR0.out (ji32) p186 q186
               cases e186
               replace hx186_0 := (HB.out.cell (World.block_lt_of_cell? w _ hx186_0)).trans hx186_0
               replace p186 := eq_true p186
               replace q186 := eq_true q186
               try go_wp2_with (first | ((with_reducible refine gate_callee (f := 62) rfl ?_); refine goesL_ (some 64) rfl rfl Tryd.func62 (by kernel_rfl) rfl #[.string (rdOf ByteArray.empty l0 (ji32))] rfl (by (try simp only [List.map_toArray, List.map_cons, List.map_nil]); first | done | (simp only [hji32]; rfl) | rfl | (simp only [List.length_drop, List.length_take]; rfl)) ?_; (with_reducible refine (barrowref24_numberOf.calls k3 (rdOf ByteArray.empty l0 (ji32)) t187 true _ A35.out).mono ?_); rintro e w' ⟨rfl, ⟨nd, rfl⟩⟩; refine ⟨_, rfl, ?_⟩; (try (rw [drewN_self wr]; generalize hq_ : World.drewN wr _ = wr; have n0_ : Aside0 (wr.heap[gb178]? = some (.cells #[.int .i64 x179000_3, .int .i64 x179001_3, .int .i64 x179002_3, .int .i64 x179003_3, .string x179004_3, .int .i64 x179005_3, .int .i64 x179006_3] 29 (0, 0))) := ⟨by rw [← hq_]; exact (by (with_reducible repeat (first | refine blk_drewN ?_ _ | refine blk_drew ?_ | refine blk_alloc ?_ _)); exact BK178.out)⟩; have n1_ : Aside0 (wr.heap[gb182]? = some (.cells #[.int .i64 x183000_3, .int .i64 x183001_3, .int .i64 x183002_3, .int .i64 x183003_3, .string x183004_3, .int .i64 x183005_3, .int .i64 x183006_3] 29 (0, 0))) := ⟨by rw [← hq_]; exact (by (with_reducible repeat (first | refine blk_drewN ?_ _ | refine blk_drew ?_ | refine blk_alloc ?_ _)); exact BK182.out)⟩; have n2_ : Aside0 (Below w.heap.size w wr) := ⟨by rw [← hq_]; exact (by repeat (first | (with_reducible first | exact HB.out | apply below_alloc | apply pw_below_drewN | apply below_drew1 | refine below_set ?_ GE178.out | refine below_set ?_ GE182.out) | exact HB.out))⟩; clear BK178 BK182 HB hq_; have BK178 := n0_; have BK182 := n1_; have HB := n2_; clear n0_ n1_ n2_))))
               have n0_ := Aside0.mk (blk_drew BK178.out)
               have n1_ := Aside0.mk (blk_drew BK182.out)
               have n2_ := Aside0.mk (below_drew1 HB.out)
               clear BK178
               clear BK182
               clear HB
               have BK178 := n0_
               have BK182 := n1_
               have HB := n2_
               clear n0_ n1_ n2_
               have p37 : 0 ≤ (x7_3 : Int) := of_decide_eq_true (by first | (with_reducible assumption) | assumption)
               have q37 : x7_3 < (t179.size : Int) := of_decide_eq_true (by first | (with_reducible assumption) | assumption)
               have hx37 := bt_at t179 x7_3
               replace p37 := eq_true p37
               replace q37 := eq_true q37
               refine start_ (n := 7) (S := fun w' => w'.cell? ⟨gb182, 0, none⟩ = some (.int .i64 x183000_3) ∧ w'.cell? ⟨gb182, 1, none⟩ = some (.int .i64 x183001_3) ∧ w'.cell? ⟨gb182, 2, none⟩ = some (.int .i64 x183002_3) ∧ w'.cell? ⟨gb182, 3, none⟩ = some (.int .i64 x183003_3) ∧ w'.cell? ⟨gb182, 4, none⟩ = some (.string x183004_3) ∧ w'.cell? ⟨gb182, 5, none⟩ = some (.int .i64 x183005_3) ∧ w'.cell? ⟨gb182, 6, none⟩ = some (.int .i64 x183006_3)) (ds := [6]) #[false, false, false, false, false, false, false] (by kernel_rfl) rfl rfl ⟨(blk_cell BK182.out 0).trans rfl, (blk_cell BK182.out 1).trans rfl, (blk_cell BK182.out 2).trans rfl, (blk_cell BK182.out 3).trans rfl, (blk_cell BK182.out 4).trans rfl, (blk_cell BK182.out 5).trans rfl, (blk_cell BK182.out 6).trans rfl⟩ (fun hHeld => ?_)
               generalize wr.drew = w39 at BK178 BK182 HB hHeld ⊢
               refine pure_ (i := 1) (N := some 71) (v := ?_) (a' := ?_) #[false, true, false, false, false, false, false] rfl rfl (by kernel_rfl) (fun _ _ _ h => h) (Or.inl ⟨by rfl, ?_⟩) ?_ ?_
               rotate_left
               ·intro w'
                go_simp
                with_reducible rfl
               rotate_left
               ·simp only [Act.put, List.setIfInBounds_toArray, List.set_cons_zero, List.set_cons_succ, i64_w, i32_w]
                rfl
               refine pure_ (i := 2) (N := some 72) (v := ?_) (a' := ?_) #[false, true, true, false, false, false, false] rfl rfl (by kernel_rfl) (fun _ _ _ h => h) (Or.inl ⟨by rfl, ?_⟩) ?_ ?_
               rotate_left
               ·intro w'
                go_simp
                with_reducible rfl
               rotate_left
               ·simp only [Act.put, List.setIfInBounds_toArray, List.set_cons_zero, List.set_cons_succ, i64_w, i32_w]
                rfl
               refine pure_ (i := 4) (N := some 74) (v := ?_) (a' := ?_) #[false, true, true, false, true, false, false] rfl rfl (by kernel_rfl) (fun _ _ _ h => h) (Or.inl ⟨by rfl, ?_⟩) ?_ ?_
               rotate_left
               ·intro w'
                go_simp
                with_reducible rfl
               rotate_left
               ·simp only [Act.put, List.setIfInBounds_toArray, List.set_cons_zero, List.set_cons_succ, i64_w, i32_w]
                rfl
               refine take_ (i := 0) (N := some 70) (v := ?_) (a' := ?_) #[true, true, true, false, true, false, false] rfl rfl (by kernel_rfl) (fun _ _ _ h => h) (Or.inl ⟨by rfl, ?_⟩) hHeld ?_ ?_
               rotate_left
               ·rintro w' ⟨s0, s1, s2, s3, s4, s5, s6⟩
                go_simp
                with_reducible rfl
               rotate_left
               ·simp only [Act.put, List.setIfInBounds_toArray, List.set_cons_zero, List.set_cons_succ, i64_w, i32_w]
                rfl
               refine take_ (i := 3) (N := some 73) (v := ?_) (a' := ?_) #[true, true, true, true, true, false, false] rfl rfl (by kernel_rfl) (fun _ _ _ h => h) (Or.inl ⟨by rfl, ?_⟩) hHeld ?_ ?_
               rotate_left
               ·rintro w' ⟨s0, s1, s2, s3, s4, s5, s6⟩
                go_simp
                with_reducible rfl
               rotate_left
               ·simp only [Act.put, List.setIfInBounds_toArray, List.set_cons_zero, List.set_cons_succ, i64_w, i32_w]
                rfl
               refine one_ (i := 5) (N := some 75) #[true, true, true, true, true, true, false] rfl rfl (by kernel_rfl) (by decide) (fun K hK => ?_)
               refine goes_ Tryd.func45 (by kernel_rfl) rfl #[.agg #[.int .i64 x183000_3, .int .i64 x183001_3, .int .i64 x183002_3, .int .i64 x183003_3, .string x183004_3, .int .i64 x183005_3, .int .i64 x183006_3], .int .u8 (bt t179 x7_3), .int .i64 t187] (by rfl) rfl rfl (by (try simp only [List.map_toArray, List.map_cons, List.map_nil]); first | done | rfl | (simp only [List.length_drop, List.length_take]; rfl)) ?_
               with_reducible refine (barrowref24_with.calls x183000_3 x183001_3 x183002_3 x183003_3 x183004_3 x183005_3 x183006_3 (bt t179 x7_3) t187 t189 t190 t191 t192 t193 t194 t195 _ A38.out).mono ?_
               rintro e w40 ⟨rfl, hb⟩
               refine ⟨_, rfl, ?_⟩
               have n0_ := Aside0.mk (blk_below (g := gb178) (o := .cells #[.int .i64 x179000_3, .int .i64 x179001_3, .int .i64 x179002_3, .int .i64 x179003_3, .string x179004_3, .int .i64 x179005_3, .int .i64 x179006_3] 29 (0, 0)) (by (with_reducible repeat (first | refine blk_drewN ?_ _ | refine blk_drew ?_ | refine blk_alloc ?_ _)); exact BK178.out) hb)
               have n1_ := Aside0.mk (blk_below (g := gb182) (o := .cells #[.int .i64 x183000_3, .int .i64 x183001_3, .int .i64 x183002_3, .int .i64 x183003_3, .string x183004_3, .int .i64 x183005_3, .int .i64 x183006_3] 29 (0, 0)) (by (with_reducible repeat (first | refine blk_drewN ?_ _ | refine blk_drew ?_ | refine blk_alloc ?_ _)); exact BK182.out) hb)
               have n2_ := Aside0.mk (below_step (by repeat (first | (with_reducible first | exact HB.out | apply below_alloc | apply pw_below_drewN | apply below_drew1 | refine below_set ?_ GE178.out | refine below_set ?_ GE182.out) | exact HB.out)) hb)
               clear BK178
               clear BK182
               clear HB
               have BK178 := n0_
               have BK182 := n1_
               have HB := n2_
               clear n0_ n1_ n2_
               (try clear hb)
               (try clear hb2)
               (try clear hk)
               (try clear hi)
               refine hK.out _ _ ⟨(blk_cell BK182.out 0).trans rfl, (blk_cell BK182.out 1).trans rfl, (blk_cell BK182.out 2).trans rfl, (blk_cell BK182.out 3).trans rfl, (blk_cell BK182.out 4).trans rfl, (blk_cell BK182.out 5).trans rfl, (blk_cell BK182.out 6).trans rfl⟩ (fun hHeld => ?_)
               clear hK K
               refine norm_ (a' := ?_) ?_ ?_
               rotate_left
               ·show Act.put _ (some 75) _ = _
                simp only [Act.put, List.setIfInBounds_toArray, List.set_cons_zero, List.set_cons_succ, i64_w, i32_w]
                rfl
               refine last_ (i := 6) (N := none) #[true, true, true, true, true, true, true] rfl rfl (by kernel_rfl) (by decide) (fun K hK => ?_)
               have hs41 : w40.cell? ⟨gb182, 0, none⟩ = some (.int .i64 x183000_3) := (blk_cell BK182.out 0).trans rfl
               have hfs41 := blk_frozen BK182.out 0
               have hns41_0 := NB178_182.out
               have hms41_0 := NB182_178.out
               have hs42 : w40.cell? ⟨gb182, 1, none⟩ = some (.int .i64 x183001_3) := (blk_cell BK182.out 1).trans rfl
               have hfs42 := blk_frozen BK182.out 1
               have hns42_0 := NB178_182.out
               have hms42_0 := NB182_178.out
               have hs43 : w40.cell? ⟨gb182, 2, none⟩ = some (.int .i64 x183002_3) := (blk_cell BK182.out 2).trans rfl
               have hfs43 := blk_frozen BK182.out 2
               have hns43_0 := NB178_182.out
               have hms43_0 := NB182_178.out
               have hs44 : w40.cell? ⟨gb182, 3, none⟩ = some (.int .i64 x183003_3) := (blk_cell BK182.out 3).trans rfl
               have hfs44 := blk_frozen BK182.out 3
               have hns44_0 := NB178_182.out
               have hms44_0 := NB182_178.out
               have hs45 : w40.cell? ⟨gb182, 4, none⟩ = some (.string x183004_3) := (blk_cell BK182.out 4).trans rfl
               have hfs45 := blk_frozen BK182.out 4
               have hns45_0 := NB178_182.out
               have hms45_0 := NB182_178.out
               have hs46 : w40.cell? ⟨gb182, 5, none⟩ = some (.int .i64 x183005_3) := (blk_cell BK182.out 5).trans rfl
               have hfs46 := blk_frozen BK182.out 5
               have hns46_0 := NB178_182.out
               have hms46_0 := NB182_178.out
               have hs47 : w40.cell? ⟨gb182, 6, none⟩ = some (.int .i64 x183006_3) := (blk_cell BK182.out 6).trans rfl
               have hfs47 := blk_frozen BK182.out 6
               have hns47_0 := NB178_182.out
               have hms47_0 := NB182_178.out
               refine skip_ (w1 := ?_) (by rfl) rfl ?_ ?_
               rotate_left
               ·go_simp
                rfl
               refine hK.out _ _ ?_
               clear hK K
               refine done_ (by kernel_rfl) ?_
               try go_wp2
               go_roundg k3
               case measure => have := HK1.out; have := HJ4.out; have := HK3.out; omega
               case rel => exact ⟨(ji32), (x179000_3), (x179001_3), (x179002_3), (x179003_3), (x179004_3), (x179005_3), (x179006_3), (t189), (t190), (t191), (t192), (t193), (t194), (t195), (by first | rfl | (simp; done) | (simp only [← hji32] <;> (first | rfl | simp)) | (simp [*]; done)), H', ⟨by have := HK1.out; have := HJ4.out; have := HK3.out; omega⟩, ⟨by (with_reducible repeat (first | refine blk_drewN ?_ _ | refine blk_drew ?_ | refine blk_alloc ?_ _)); refine blk_far ?_ NB178_182.out _; (with_reducible repeat (first | refine blk_drewN ?_ _ | refine blk_drew ?_ | refine blk_alloc ?_ _)); refine blk_far ?_ NB178_182.out _; (with_reducible repeat (first | refine blk_drewN ?_ _ | refine blk_drew ?_ | refine blk_alloc ?_ _)); refine blk_far ?_ NB178_182.out _; (with_reducible repeat (first | refine blk_drewN ?_ _ | refine blk_drew ?_ | refine blk_alloc ?_ _)); refine blk_far ?_ NB178_182.out _; (with_reducible repeat (first | refine blk_drewN ?_ _ | refine blk_drew ?_ | refine blk_alloc ?_ _)); refine blk_far ?_ NB178_182.out _; (with_reducible repeat (first | refine blk_drewN ?_ _ | refine blk_drew ?_ | refine blk_alloc ?_ _)); refine blk_far ?_ NB178_182.out _; (with_reducible repeat (first | refine blk_drewN ?_ _ | refine blk_drew ?_ | refine blk_alloc ?_ _)); refine blk_far ?_ NB178_182.out _; (with_reducible repeat (first | refine blk_drewN ?_ _ | refine blk_drew ?_ | refine blk_alloc ?_ _)); exact BK178.out⟩, ⟨by (with_reducible repeat (first | refine blk_drewN ?_ _ | refine blk_drew ?_ | refine blk_alloc ?_ _)); refine blk_put (cs := #[.int .i64 t189, .int .i64 t190, .int .i64 t191, .int .i64 t192, .string t193, .int .i64 t194, .int .i64 x183006_3]) ?_ 6 _ rfl; (with_reducible repeat (first | refine blk_drewN ?_ _ | refine blk_drew ?_ | refine blk_alloc ?_ _)); refine blk_put (cs := #[.int .i64 t189, .int .i64 t190, .int .i64 t191, .int .i64 t192, .string t193, .int .i64 x183005_3, .int .i64 x183006_3]) ?_ 5 _ rfl; (with_reducible repeat (first | refine blk_drewN ?_ _ | refine blk_drew ?_ | refine blk_alloc ?_ _)); refine blk_put (cs := #[.int .i64 t189, .int .i64 t190, .int .i64 t191, .int .i64 t192, .string x183004_3, .int .i64 x183005_3, .int .i64 x183006_3]) ?_ 4 _ rfl; (with_reducible repeat (first | refine blk_drewN ?_ _ | refine blk_drew ?_ | refine blk_alloc ?_ _)); refine blk_put (cs := #[.int .i64 t189, .int .i64 t190, .int .i64 t191, .int .i64 x183003_3, .string x183004_3, .int .i64 x183005_3, .int .i64 x183006_3]) ?_ 3 _ rfl; (with_reducible repeat (first | refine blk_drewN ?_ _ | refine blk_drew ?_ | refine blk_alloc ?_ _)); refine blk_put (cs := #[.int .i64 t189, .int .i64 t190, .int .i64 x183002_3, .int .i64 x183003_3, .string x183004_3, .int .i64 x183005_3, .int .i64 x183006_3]) ?_ 2 _ rfl; (with_reducible repeat (first | refine blk_drewN ?_ _ | refine blk_drew ?_ | refine blk_alloc ?_ _)); refine blk_put (cs := #[.int .i64 t189, .int .i64 x183001_3, .int .i64 x183002_3, .int .i64 x183003_3, .string x183004_3, .int .i64 x183005_3, .int .i64 x183006_3]) ?_ 1 _ rfl; (with_reducible repeat (first | refine blk_drewN ?_ _ | refine blk_drew ?_ | refine blk_alloc ?_ _)); refine blk_put (cs := #[.int .i64 x183000_3, .int .i64 x183001_3, .int .i64 x183002_3, .int .i64 x183003_3, .string x183004_3, .int .i64 x183005_3, .int .i64 x183006_3]) ?_ 0 _ rfl; (with_reducible repeat (first | refine blk_drewN ?_ _ | refine blk_drew ?_ | refine blk_alloc ?_ _)); exact BK182.out⟩, ⟨by repeat (first | (with_reducible first | exact HB.out | apply below_alloc | apply pw_below_drewN | apply below_drew1 | refine below_set ?_ GE178.out | refine below_set ?_ GE182.out) | exact HB.out)⟩⟩
              ·replace c36 := Bool.eq_false_iff.mpr c36
               subst c36
               have H1 : (some (0, 0, 0, 0, (⟨#[]⟩ : ByteArray), 0, 0, false)) = some (r1, r2, r3, r4, r5, r6, r7, r8) := by rw [if_neg (show ¬ (false = true) by decide)] at H; exact H
               clear H
               have H := H1
               clear H1
               simp only [Option.some.injEq, Prod.mk.injEq] at H
               obtain ⟨rfl, rfl, rfl, rfl, rfl, rfl, rfl, rfl⟩ := H
               have p19 : 0 ≤ (x7_3 : Int) := of_decide_eq_true (by first | (with_reducible assumption) | assumption)
               have q19 : x7_3 < (t179.size : Int) := of_decide_eq_true (by first | (with_reducible assumption) | assumption)
               have hx19 := bt_at t179 x7_3
               replace p19 := eq_true p19
               replace q19 := eq_true q19
               have p186 : 0 ≤ ((ji32) : Int) := of_decide_eq_true (by first | (with_reducible assumption) | assumption)
               have q186 : (ji32) < (l0.length : Int) := of_decide_eq_true (by first | (with_reducible assumption) | assumption)
               obtain ⟨ad186, e186, hx186_0⟩ := Kd.at_string HR0.out (ji32) p186 q186
               cases e186
               replace hx186_0 := (HB.out.cell (World.block_lt_of_cell? w _ hx186_0)).trans hx186_0
               replace p186 := eq_true p186
               replace q186 := eq_true q186
               go_wp2_with (first | ((with_reducible refine gate_callee (f := 62) rfl ?_); refine goesL_ (some 64) rfl rfl Tryd.func62 (by kernel_rfl) rfl #[.string (rdOf ByteArray.empty l0 (ji32))] rfl (by (try simp only [List.map_toArray, List.map_cons, List.map_nil]); first | done | (simp only [hji32]; rfl) | rfl | (simp only [List.length_drop, List.length_take]; rfl)) ?_; (with_reducible refine (barrowref24_numberOf.calls k3 (rdOf ByteArray.empty l0 (ji32)) t187 false _ A35.out).mono ?_); rintro e w' ⟨rfl, ⟨nd, rfl⟩⟩; refine ⟨_, rfl, ?_⟩; (try (rw [drewN_self wr]; generalize hq_ : World.drewN wr _ = wr; have n0_ : Aside0 (wr.heap[gb178]? = some (.cells #[.int .i64 x179000_3, .int .i64 x179001_3, .int .i64 x179002_3, .int .i64 x179003_3, .string x179004_3, .int .i64 x179005_3, .int .i64 x179006_3] 29 (0, 0))) := ⟨by rw [← hq_]; exact (by (with_reducible repeat (first | refine blk_drewN ?_ _ | refine blk_drew ?_ | refine blk_alloc ?_ _)); exact BK178.out)⟩; have n1_ : Aside0 (wr.heap[gb182]? = some (.cells #[.int .i64 x183000_3, .int .i64 x183001_3, .int .i64 x183002_3, .int .i64 x183003_3, .string x183004_3, .int .i64 x183005_3, .int .i64 x183006_3] 29 (0, 0))) := ⟨by rw [← hq_]; exact (by (with_reducible repeat (first | refine blk_drewN ?_ _ | refine blk_drew ?_ | refine blk_alloc ?_ _)); exact BK182.out)⟩; have n2_ : Aside0 (Below w.heap.size w wr) := ⟨by rw [← hq_]; exact (by repeat (first | (with_reducible first | exact HB.out | apply below_alloc | apply pw_below_drewN | apply below_drew1 | refine below_set ?_ GE178.out | refine below_set ?_ GE182.out) | exact HB.out))⟩; clear BK178 BK182 HB hq_; have BK178 := n0_; have BK182 := n1_; have HB := n2_; clear n0_ n1_ n2_)); have hnb48 := NB178_182.out; have hnc48 := NB182_178.out; have hcz49_0 : wr.cell? ⟨gb178, 0, none⟩ = some (.int .i64 x179000_3) := (blk_cell BK178.out 0).trans rfl; have hcz49_1 : wr.cell? ⟨gb178, 1, none⟩ = some (.int .i64 x179001_3) := (blk_cell BK178.out 1).trans rfl; have hcz49_2 : wr.cell? ⟨gb178, 2, none⟩ = some (.int .i64 x179002_3) := (blk_cell BK178.out 2).trans rfl; have hcz49_3 : wr.cell? ⟨gb178, 3, none⟩ = some (.int .i64 x179003_3) := (blk_cell BK178.out 3).trans rfl; have hcz49_4 : wr.cell? ⟨gb178, 4, none⟩ = some (.string x179004_3) := (blk_cell BK178.out 4).trans rfl; have hcz49_5 : wr.cell? ⟨gb178, 5, none⟩ = some (.int .i64 x179005_3) := (blk_cell BK178.out 5).trans rfl; have hcz49_6 : wr.cell? ⟨gb178, 6, none⟩ = some (.int .i64 x179006_3) := (blk_cell BK178.out 6).trans rfl; have hfz49_0 := blk_frozen BK178.out 0; have hfz49_1 := blk_frozen BK178.out 1; have hfz49_2 := blk_frozen BK178.out 2; have hfz49_3 := blk_frozen BK178.out 3; have hfz49_4 := blk_frozen BK178.out 4; have hfz49_5 := blk_frozen BK178.out 5; have hfz49_6 := blk_frozen BK178.out 6))
               refine bodyPost_ret (results_ct rfl _ _ gb178 29 #[.int .i64 0, .int .i64 0, .int .i64 0, .int .i64 0, .string (⟨#[]⟩ : ByteArray), .int .i64 0, .int .i64 0] (0, 0) _ rfl (by (with_reducible repeat (first | refine blk_drewN ?_ _ | refine blk_drew ?_ | refine blk_alloc ?_ _)); refine blk_put (cs := #[.int .i64 0, .int .i64 0, .int .i64 0, .int .i64 0, .string (⟨#[]⟩ : ByteArray), .int .i64 0, .int .i64 x179006_3]) ?_ 6 _ rfl; (with_reducible repeat (first | refine blk_drewN ?_ _ | refine blk_drew ?_ | refine blk_alloc ?_ _)); refine blk_put (cs := #[.int .i64 0, .int .i64 0, .int .i64 0, .int .i64 0, .string (⟨#[]⟩ : ByteArray), .int .i64 x179005_3, .int .i64 x179006_3]) ?_ 5 _ rfl; (with_reducible repeat (first | refine blk_drewN ?_ _ | refine blk_drew ?_ | refine blk_alloc ?_ _)); refine blk_put (cs := #[.int .i64 0, .int .i64 0, .int .i64 0, .int .i64 0, .string x179004_3, .int .i64 x179005_3, .int .i64 x179006_3]) ?_ 4 _ rfl; (with_reducible repeat (first | refine blk_drewN ?_ _ | refine blk_drew ?_ | refine blk_alloc ?_ _)); refine blk_put (cs := #[.int .i64 0, .int .i64 0, .int .i64 0, .int .i64 x179003_3, .string x179004_3, .int .i64 x179005_3, .int .i64 x179006_3]) ?_ 3 _ rfl; (with_reducible repeat (first | refine blk_drewN ?_ _ | refine blk_drew ?_ | refine blk_alloc ?_ _)); refine blk_put (cs := #[.int .i64 0, .int .i64 0, .int .i64 x179002_3, .int .i64 x179003_3, .string x179004_3, .int .i64 x179005_3, .int .i64 x179006_3]) ?_ 2 _ rfl; (with_reducible repeat (first | refine blk_drewN ?_ _ | refine blk_drew ?_ | refine blk_alloc ?_ _)); refine blk_put (cs := #[.int .i64 0, .int .i64 x179001_3, .int .i64 x179002_3, .int .i64 x179003_3, .string x179004_3, .int .i64 x179005_3, .int .i64 x179006_3]) ?_ 1 _ rfl; (with_reducible repeat (first | refine blk_drewN ?_ _ | refine blk_drew ?_ | refine blk_alloc ?_ _)); refine blk_put (cs := #[.int .i64 x179000_3, .int .i64 x179001_3, .int .i64 x179002_3, .int .i64 x179003_3, .string x179004_3, .int .i64 x179005_3, .int .i64 x179006_3]) ?_ 0 _ rfl; (with_reducible repeat (first | refine blk_drewN ?_ _ | refine blk_drew ?_ | refine blk_alloc ?_ _)); exact BK178.out) Tryd.underlying29 rfl (by kernel_rfl)) rfl ?_
               exact ⟨by first | rfl | (simp [errW_none, errW_some] <;> rfl) | (simp only [← hji32]; first | rfl | (simp [errW_none, errW_some] <;> rfl)) | (simp [*, errW_none, errW_some] <;> rfl), by repeat (first | (with_reducible first | exact HB.out | apply below_alloc | apply pw_below_drewN | apply below_drew1 | refine below_set ?_ GE178.out | refine below_set ?_ GE182.out) | exact HB.out)⟩
             ·rw [if_neg c34] at H
              exact absurd H (by simp)
            ·rw [if_neg c33] at H
             exact absurd H (by simp)
          ·rw [if_neg c18] at H
           exact absurd H (by simp)
         ·rw [if_neg c17] at H
          have c17b0 : decide (x7_3 < (t179.size : Int)) = false := decide_eq_false c17
          clear c17
          by_cases c50 : x4_1 = 0
          ·rw [if_pos c50] at H
           have c50b0 : (x4_1 == 0) = true := beq_iff_eq.mpr c50
           have c50b1 : (x4_1 != 0) = false := bne_eq_false_iff_eq.mpr c50
           clear c50
           by_cases c51 : x183000_3 ≥ 1
           ·rw [if_pos c51] at H
            have c51b0 : decide (1 ≤ x183000_3) = true := decide_eq_true c51
            clear c51
            by_cases c52 : x183000_3 ≤ 16
            ·rw [if_pos c52] at H
             have c52b0 : decide (x183000_3 ≤ 16) = true := decide_eq_true c52
             clear c52
             simp only [Option.some.injEq, Prod.mk.injEq] at H
             obtain ⟨rfl, rfl, rfl, rfl, rfl, rfl, rfl, rfl⟩ := H
             have hnb53 := NB182_178.out
             have hnc53 := NB178_182.out
             have hcz54_0 : wr.cell? ⟨gb182, 0, none⟩ = some (.int .i64 x183000_3) := (blk_cell BK182.out 0).trans rfl
             have hcz54_1 : wr.cell? ⟨gb182, 1, none⟩ = some (.int .i64 x183001_3) := (blk_cell BK182.out 1).trans rfl
             have hcz54_2 : wr.cell? ⟨gb182, 2, none⟩ = some (.int .i64 x183002_3) := (blk_cell BK182.out 2).trans rfl
             have hcz54_3 : wr.cell? ⟨gb182, 3, none⟩ = some (.int .i64 x183003_3) := (blk_cell BK182.out 3).trans rfl
             have hcz54_4 : wr.cell? ⟨gb182, 4, none⟩ = some (.string x183004_3) := (blk_cell BK182.out 4).trans rfl
             have hcz54_5 : wr.cell? ⟨gb182, 5, none⟩ = some (.int .i64 x183005_3) := (blk_cell BK182.out 5).trans rfl
             have hcz54_6 : wr.cell? ⟨gb182, 6, none⟩ = some (.int .i64 x183006_3) := (blk_cell BK182.out 6).trans rfl
             have hfz54_0 := blk_frozen BK182.out 0
             have hfz54_1 := blk_frozen BK182.out 1
             have hfz54_2 := blk_frozen BK182.out 2
             have hfz54_3 := blk_frozen BK182.out 3
             have hfz54_4 := blk_frozen BK182.out 4
             have hfz54_5 := blk_frozen BK182.out 5
             have hfz54_6 := blk_frozen BK182.out 6
             have hcz55_0 : wr.cell? ⟨gb178, 0, none⟩ = some (.int .i64 x179000_3) := (blk_cell BK178.out 0).trans rfl
             have hcz55_1 : wr.cell? ⟨gb178, 1, none⟩ = some (.int .i64 x179001_3) := (blk_cell BK178.out 1).trans rfl
             have hcz55_2 : wr.cell? ⟨gb178, 2, none⟩ = some (.int .i64 x179002_3) := (blk_cell BK178.out 2).trans rfl
             have hcz55_3 : wr.cell? ⟨gb178, 3, none⟩ = some (.int .i64 x179003_3) := (blk_cell BK178.out 3).trans rfl
             have hcz55_4 : wr.cell? ⟨gb178, 4, none⟩ = some (.string x179004_3) := (blk_cell BK178.out 4).trans rfl
             have hcz55_5 : wr.cell? ⟨gb178, 5, none⟩ = some (.int .i64 x179005_3) := (blk_cell BK178.out 5).trans rfl
             have hcz55_6 : wr.cell? ⟨gb178, 6, none⟩ = some (.int .i64 x179006_3) := (blk_cell BK178.out 6).trans rfl
             have hfz55_0 := blk_frozen BK178.out 0
             have hfz55_1 := blk_frozen BK178.out 1
             have hfz55_2 := blk_frozen BK178.out 2
             have hfz55_3 := blk_frozen BK178.out 3
             have hfz55_4 := blk_frozen BK178.out 4
             have hfz55_5 := blk_frozen BK178.out 5
             have hfz55_6 := blk_frozen BK178.out 6
             go_wp2
             refine bodyPost_ret (results_ct rfl _ _ gb178 29 #[.int .i64 0, .int .i64 0, .int .i64 0, .int .i64 0, .string (⟨#[]⟩ : ByteArray), .int .i64 0, .int .i64 0] (0, 0) _ rfl (by (with_reducible repeat (first | refine blk_drewN ?_ _ | refine blk_drew ?_ | refine blk_alloc ?_ _)); refine blk_put (cs := #[.int .i64 0, .int .i64 0, .int .i64 0, .int .i64 0, .string (⟨#[]⟩ : ByteArray), .int .i64 0, .int .i64 x179006_3]) ?_ 6 _ rfl; (with_reducible repeat (first | refine blk_drewN ?_ _ | refine blk_drew ?_ | refine blk_alloc ?_ _)); refine blk_put (cs := #[.int .i64 0, .int .i64 0, .int .i64 0, .int .i64 0, .string (⟨#[]⟩ : ByteArray), .int .i64 x179005_3, .int .i64 x179006_3]) ?_ 5 _ rfl; (with_reducible repeat (first | refine blk_drewN ?_ _ | refine blk_drew ?_ | refine blk_alloc ?_ _)); refine blk_put (cs := #[.int .i64 0, .int .i64 0, .int .i64 0, .int .i64 0, .string x179004_3, .int .i64 x179005_3, .int .i64 x179006_3]) ?_ 4 _ rfl; (with_reducible repeat (first | refine blk_drewN ?_ _ | refine blk_drew ?_ | refine blk_alloc ?_ _)); refine blk_put (cs := #[.int .i64 0, .int .i64 0, .int .i64 0, .int .i64 x179003_3, .string x179004_3, .int .i64 x179005_3, .int .i64 x179006_3]) ?_ 3 _ rfl; (with_reducible repeat (first | refine blk_drewN ?_ _ | refine blk_drew ?_ | refine blk_alloc ?_ _)); refine blk_put (cs := #[.int .i64 0, .int .i64 0, .int .i64 x179002_3, .int .i64 x179003_3, .string x179004_3, .int .i64 x179005_3, .int .i64 x179006_3]) ?_ 2 _ rfl; (with_reducible repeat (first | refine blk_drewN ?_ _ | refine blk_drew ?_ | refine blk_alloc ?_ _)); refine blk_put (cs := #[.int .i64 0, .int .i64 x179001_3, .int .i64 x179002_3, .int .i64 x179003_3, .string x179004_3, .int .i64 x179005_3, .int .i64 x179006_3]) ?_ 1 _ rfl; (with_reducible repeat (first | refine blk_drewN ?_ _ | refine blk_drew ?_ | refine blk_alloc ?_ _)); refine blk_put (cs := #[.int .i64 x179000_3, .int .i64 x179001_3, .int .i64 x179002_3, .int .i64 x179003_3, .string x179004_3, .int .i64 x179005_3, .int .i64 x179006_3]) ?_ 0 _ rfl; (with_reducible repeat (first | refine blk_drewN ?_ _ | refine blk_drew ?_ | refine blk_alloc ?_ _)); exact BK178.out) Tryd.underlying29 rfl (by kernel_rfl)) rfl ?_
             exact ⟨by first | rfl | (simp [errW_none, errW_some] <;> rfl) | (simp [*, errW_none, errW_some] <;> rfl), by repeat (first | (with_reducible first | exact HB.out | apply below_alloc | apply pw_below_drewN | apply below_drew1 | refine below_set ?_ GE178.out | refine below_set ?_ GE182.out) | exact HB.out)⟩
            ·rw [if_neg c52] at H
             have c52b0 : decide (x183000_3 ≤ 16) = false := decide_eq_false c52
             clear c52
             simp only [Option.some.injEq, Prod.mk.injEq] at H
             obtain ⟨rfl, rfl, rfl, rfl, rfl, rfl, rfl, rfl⟩ := H
             have hnb56 := NB182_178.out
             have hnc56 := NB178_182.out
             have hcz57_0 : wr.cell? ⟨gb182, 0, none⟩ = some (.int .i64 x183000_3) := (blk_cell BK182.out 0).trans rfl
             have hcz57_1 : wr.cell? ⟨gb182, 1, none⟩ = some (.int .i64 x183001_3) := (blk_cell BK182.out 1).trans rfl
             have hcz57_2 : wr.cell? ⟨gb182, 2, none⟩ = some (.int .i64 x183002_3) := (blk_cell BK182.out 2).trans rfl
             have hcz57_3 : wr.cell? ⟨gb182, 3, none⟩ = some (.int .i64 x183003_3) := (blk_cell BK182.out 3).trans rfl
             have hcz57_4 : wr.cell? ⟨gb182, 4, none⟩ = some (.string x183004_3) := (blk_cell BK182.out 4).trans rfl
             have hcz57_5 : wr.cell? ⟨gb182, 5, none⟩ = some (.int .i64 x183005_3) := (blk_cell BK182.out 5).trans rfl
             have hcz57_6 : wr.cell? ⟨gb182, 6, none⟩ = some (.int .i64 x183006_3) := (blk_cell BK182.out 6).trans rfl
             have hfz57_0 := blk_frozen BK182.out 0
             have hfz57_1 := blk_frozen BK182.out 1
             have hfz57_2 := blk_frozen BK182.out 2
             have hfz57_3 := blk_frozen BK182.out 3
             have hfz57_4 := blk_frozen BK182.out 4
             have hfz57_5 := blk_frozen BK182.out 5
             have hfz57_6 := blk_frozen BK182.out 6
             have hcz58_0 : wr.cell? ⟨gb178, 0, none⟩ = some (.int .i64 x179000_3) := (blk_cell BK178.out 0).trans rfl
             have hcz58_1 : wr.cell? ⟨gb178, 1, none⟩ = some (.int .i64 x179001_3) := (blk_cell BK178.out 1).trans rfl
             have hcz58_2 : wr.cell? ⟨gb178, 2, none⟩ = some (.int .i64 x179002_3) := (blk_cell BK178.out 2).trans rfl
             have hcz58_3 : wr.cell? ⟨gb178, 3, none⟩ = some (.int .i64 x179003_3) := (blk_cell BK178.out 3).trans rfl
             have hcz58_4 : wr.cell? ⟨gb178, 4, none⟩ = some (.string x179004_3) := (blk_cell BK178.out 4).trans rfl
             have hcz58_5 : wr.cell? ⟨gb178, 5, none⟩ = some (.int .i64 x179005_3) := (blk_cell BK178.out 5).trans rfl
             have hcz58_6 : wr.cell? ⟨gb178, 6, none⟩ = some (.int .i64 x179006_3) := (blk_cell BK178.out 6).trans rfl
             have hfz58_0 := blk_frozen BK178.out 0
             have hfz58_1 := blk_frozen BK178.out 1
             have hfz58_2 := blk_frozen BK178.out 2
             have hfz58_3 := blk_frozen BK178.out 3
             have hfz58_4 := blk_frozen BK178.out 4
             have hfz58_5 := blk_frozen BK178.out 5
             have hfz58_6 := blk_frozen BK178.out 6
             go_wp2
             refine bodyPost_ret (results_ct rfl _ _ gb178 29 #[.int .i64 x183000_3, .int .i64 x183001_3, .int .i64 x183002_3, .int .i64 x183003_3, .string x183004_3, .int .i64 x183005_3, .int .i64 x183006_3] (0, 0) _ rfl (by (with_reducible repeat (first | refine blk_drewN ?_ _ | refine blk_drew ?_ | refine blk_alloc ?_ _)); refine blk_put (cs := #[.int .i64 x183000_3, .int .i64 x183001_3, .int .i64 x183002_3, .int .i64 x183003_3, .string x183004_3, .int .i64 x183005_3, .int .i64 x179006_3]) ?_ 6 _ rfl; (with_reducible repeat (first | refine blk_drewN ?_ _ | refine blk_drew ?_ | refine blk_alloc ?_ _)); refine blk_put (cs := #[.int .i64 x183000_3, .int .i64 x183001_3, .int .i64 x183002_3, .int .i64 x183003_3, .string x183004_3, .int .i64 x179005_3, .int .i64 x179006_3]) ?_ 5 _ rfl; (with_reducible repeat (first | refine blk_drewN ?_ _ | refine blk_drew ?_ | refine blk_alloc ?_ _)); refine blk_put (cs := #[.int .i64 x183000_3, .int .i64 x183001_3, .int .i64 x183002_3, .int .i64 x183003_3, .string x179004_3, .int .i64 x179005_3, .int .i64 x179006_3]) ?_ 4 _ rfl; (with_reducible repeat (first | refine blk_drewN ?_ _ | refine blk_drew ?_ | refine blk_alloc ?_ _)); refine blk_put (cs := #[.int .i64 x183000_3, .int .i64 x183001_3, .int .i64 x183002_3, .int .i64 x179003_3, .string x179004_3, .int .i64 x179005_3, .int .i64 x179006_3]) ?_ 3 _ rfl; (with_reducible repeat (first | refine blk_drewN ?_ _ | refine blk_drew ?_ | refine blk_alloc ?_ _)); refine blk_put (cs := #[.int .i64 x183000_3, .int .i64 x183001_3, .int .i64 x179002_3, .int .i64 x179003_3, .string x179004_3, .int .i64 x179005_3, .int .i64 x179006_3]) ?_ 2 _ rfl; (with_reducible repeat (first | refine blk_drewN ?_ _ | refine blk_drew ?_ | refine blk_alloc ?_ _)); refine blk_put (cs := #[.int .i64 x183000_3, .int .i64 x179001_3, .int .i64 x179002_3, .int .i64 x179003_3, .string x179004_3, .int .i64 x179005_3, .int .i64 x179006_3]) ?_ 1 _ rfl; (with_reducible repeat (first | refine blk_drewN ?_ _ | refine blk_drew ?_ | refine blk_alloc ?_ _)); refine blk_put (cs := #[.int .i64 x179000_3, .int .i64 x179001_3, .int .i64 x179002_3, .int .i64 x179003_3, .string x179004_3, .int .i64 x179005_3, .int .i64 x179006_3]) ?_ 0 _ rfl; (with_reducible repeat (first | refine blk_drewN ?_ _ | refine blk_drew ?_ | refine blk_alloc ?_ _)); exact BK178.out) Tryd.underlying29 rfl (by kernel_rfl)) rfl ?_
             exact ⟨by first | rfl | (simp [errW_none, errW_some] <;> rfl) | (simp [*, errW_none, errW_some] <;> rfl), by repeat (first | (with_reducible first | exact HB.out | apply below_alloc | apply pw_below_drewN | apply below_drew1 | refine below_set ?_ GE178.out | refine below_set ?_ GE182.out) | exact HB.out)⟩
           ·rw [if_neg c51] at H
            have c51b0 : decide (1 ≤ x183000_3) = false := decide_eq_false c51
            clear c51
            simp only [Option.some.injEq, Prod.mk.injEq] at H
            obtain ⟨rfl, rfl, rfl, rfl, rfl, rfl, rfl, rfl⟩ := H
            have hnb59 := NB182_178.out
            have hnc59 := NB178_182.out
            have hcz60_0 : wr.cell? ⟨gb182, 0, none⟩ = some (.int .i64 x183000_3) := (blk_cell BK182.out 0).trans rfl
            have hcz60_1 : wr.cell? ⟨gb182, 1, none⟩ = some (.int .i64 x183001_3) := (blk_cell BK182.out 1).trans rfl
            have hcz60_2 : wr.cell? ⟨gb182, 2, none⟩ = some (.int .i64 x183002_3) := (blk_cell BK182.out 2).trans rfl
            have hcz60_3 : wr.cell? ⟨gb182, 3, none⟩ = some (.int .i64 x183003_3) := (blk_cell BK182.out 3).trans rfl
            have hcz60_4 : wr.cell? ⟨gb182, 4, none⟩ = some (.string x183004_3) := (blk_cell BK182.out 4).trans rfl
            have hcz60_5 : wr.cell? ⟨gb182, 5, none⟩ = some (.int .i64 x183005_3) := (blk_cell BK182.out 5).trans rfl
            have hcz60_6 : wr.cell? ⟨gb182, 6, none⟩ = some (.int .i64 x183006_3) := (blk_cell BK182.out 6).trans rfl
            have hfz60_0 := blk_frozen BK182.out 0
            have hfz60_1 := blk_frozen BK182.out 1
            have hfz60_2 := blk_frozen BK182.out 2
            have hfz60_3 := blk_frozen BK182.out 3
            have hfz60_4 := blk_frozen BK182.out 4
            have hfz60_5 := blk_frozen BK182.out 5
            have hfz60_6 := blk_frozen BK182.out 6
            have hcz61_0 : wr.cell? ⟨gb178, 0, none⟩ = some (.int .i64 x179000_3) := (blk_cell BK178.out 0).trans rfl
            have hcz61_1 : wr.cell? ⟨gb178, 1, none⟩ = some (.int .i64 x179001_3) := (blk_cell BK178.out 1).trans rfl
            have hcz61_2 : wr.cell? ⟨gb178, 2, none⟩ = some (.int .i64 x179002_3) := (blk_cell BK178.out 2).trans rfl
            have hcz61_3 : wr.cell? ⟨gb178, 3, none⟩ = some (.int .i64 x179003_3) := (blk_cell BK178.out 3).trans rfl
            have hcz61_4 : wr.cell? ⟨gb178, 4, none⟩ = some (.string x179004_3) := (blk_cell BK178.out 4).trans rfl
            have hcz61_5 : wr.cell? ⟨gb178, 5, none⟩ = some (.int .i64 x179005_3) := (blk_cell BK178.out 5).trans rfl
            have hcz61_6 : wr.cell? ⟨gb178, 6, none⟩ = some (.int .i64 x179006_3) := (blk_cell BK178.out 6).trans rfl
            have hfz61_0 := blk_frozen BK178.out 0
            have hfz61_1 := blk_frozen BK178.out 1
            have hfz61_2 := blk_frozen BK178.out 2
            have hfz61_3 := blk_frozen BK178.out 3
            have hfz61_4 := blk_frozen BK178.out 4
            have hfz61_5 := blk_frozen BK178.out 5
            have hfz61_6 := blk_frozen BK178.out 6
            go_wp2
            refine bodyPost_ret (results_ct rfl _ _ gb178 29 #[.int .i64 x183000_3, .int .i64 x183001_3, .int .i64 x183002_3, .int .i64 x183003_3, .string x183004_3, .int .i64 x183005_3, .int .i64 x183006_3] (0, 0) _ rfl (by (with_reducible repeat (first | refine blk_drewN ?_ _ | refine blk_drew ?_ | refine blk_alloc ?_ _)); refine blk_put (cs := #[.int .i64 x183000_3, .int .i64 x183001_3, .int .i64 x183002_3, .int .i64 x183003_3, .string x183004_3, .int .i64 x183005_3, .int .i64 x179006_3]) ?_ 6 _ rfl; (with_reducible repeat (first | refine blk_drewN ?_ _ | refine blk_drew ?_ | refine blk_alloc ?_ _)); refine blk_put (cs := #[.int .i64 x183000_3, .int .i64 x183001_3, .int .i64 x183002_3, .int .i64 x183003_3, .string x183004_3, .int .i64 x179005_3, .int .i64 x179006_3]) ?_ 5 _ rfl; (with_reducible repeat (first | refine blk_drewN ?_ _ | refine blk_drew ?_ | refine blk_alloc ?_ _)); refine blk_put (cs := #[.int .i64 x183000_3, .int .i64 x183001_3, .int .i64 x183002_3, .int .i64 x183003_3, .string x179004_3, .int .i64 x179005_3, .int .i64 x179006_3]) ?_ 4 _ rfl; (with_reducible repeat (first | refine blk_drewN ?_ _ | refine blk_drew ?_ | refine blk_alloc ?_ _)); refine blk_put (cs := #[.int .i64 x183000_3, .int .i64 x183001_3, .int .i64 x183002_3, .int .i64 x179003_3, .string x179004_3, .int .i64 x179005_3, .int .i64 x179006_3]) ?_ 3 _ rfl; (with_reducible repeat (first | refine blk_drewN ?_ _ | refine blk_drew ?_ | refine blk_alloc ?_ _)); refine blk_put (cs := #[.int .i64 x183000_3, .int .i64 x183001_3, .int .i64 x179002_3, .int .i64 x179003_3, .string x179004_3, .int .i64 x179005_3, .int .i64 x179006_3]) ?_ 2 _ rfl; (with_reducible repeat (first | refine blk_drewN ?_ _ | refine blk_drew ?_ | refine blk_alloc ?_ _)); refine blk_put (cs := #[.int .i64 x183000_3, .int .i64 x179001_3, .int .i64 x179002_3, .int .i64 x179003_3, .string x179004_3, .int .i64 x179005_3, .int .i64 x179006_3]) ?_ 1 _ rfl; (with_reducible repeat (first | refine blk_drewN ?_ _ | refine blk_drew ?_ | refine blk_alloc ?_ _)); refine blk_put (cs := #[.int .i64 x179000_3, .int .i64 x179001_3, .int .i64 x179002_3, .int .i64 x179003_3, .string x179004_3, .int .i64 x179005_3, .int .i64 x179006_3]) ?_ 0 _ rfl; (with_reducible repeat (first | refine blk_drewN ?_ _ | refine blk_drew ?_ | refine blk_alloc ?_ _)); exact BK178.out) Tryd.underlying29 rfl (by kernel_rfl)) rfl ?_
            exact ⟨by first | rfl | (simp [errW_none, errW_some] <;> rfl) | (simp [*, errW_none, errW_some] <;> rfl), by repeat (first | (with_reducible first | exact HB.out | apply below_alloc | apply pw_below_drewN | apply below_drew1 | refine below_set ?_ GE178.out | refine below_set ?_ GE182.out) | exact HB.out)⟩
          ·rw [if_neg c50] at H
           have c50b0 : (x4_1 == 0) = false := beq_eq_false_iff_ne.mpr c50
           have c50b1 : (x4_1 != 0) = true := bne_iff_ne.mpr c50
           simp only [Option.some.injEq, Prod.mk.injEq] at H
           obtain ⟨rfl, rfl, rfl, rfl, rfl, rfl, rfl, rfl⟩ := H
           have hnb62 := NB182_178.out
           have hnc62 := NB178_182.out
           have hcz63_0 : wr.cell? ⟨gb182, 0, none⟩ = some (.int .i64 x183000_3) := (blk_cell BK182.out 0).trans rfl
           have hcz63_1 : wr.cell? ⟨gb182, 1, none⟩ = some (.int .i64 x183001_3) := (blk_cell BK182.out 1).trans rfl
           have hcz63_2 : wr.cell? ⟨gb182, 2, none⟩ = some (.int .i64 x183002_3) := (blk_cell BK182.out 2).trans rfl
           have hcz63_3 : wr.cell? ⟨gb182, 3, none⟩ = some (.int .i64 x183003_3) := (blk_cell BK182.out 3).trans rfl
           have hcz63_4 : wr.cell? ⟨gb182, 4, none⟩ = some (.string x183004_3) := (blk_cell BK182.out 4).trans rfl
           have hcz63_5 : wr.cell? ⟨gb182, 5, none⟩ = some (.int .i64 x183005_3) := (blk_cell BK182.out 5).trans rfl
           have hcz63_6 : wr.cell? ⟨gb182, 6, none⟩ = some (.int .i64 x183006_3) := (blk_cell BK182.out 6).trans rfl
           have hfz63_0 := blk_frozen BK182.out 0
           have hfz63_1 := blk_frozen BK182.out 1
           have hfz63_2 := blk_frozen BK182.out 2
           have hfz63_3 := blk_frozen BK182.out 3
           have hfz63_4 := blk_frozen BK182.out 4
           have hfz63_5 := blk_frozen BK182.out 5
           have hfz63_6 := blk_frozen BK182.out 6
           have hcz64_0 : wr.cell? ⟨gb178, 0, none⟩ = some (.int .i64 x179000_3) := (blk_cell BK178.out 0).trans rfl
           have hcz64_1 : wr.cell? ⟨gb178, 1, none⟩ = some (.int .i64 x179001_3) := (blk_cell BK178.out 1).trans rfl
           have hcz64_2 : wr.cell? ⟨gb178, 2, none⟩ = some (.int .i64 x179002_3) := (blk_cell BK178.out 2).trans rfl
           have hcz64_3 : wr.cell? ⟨gb178, 3, none⟩ = some (.int .i64 x179003_3) := (blk_cell BK178.out 3).trans rfl
           have hcz64_4 : wr.cell? ⟨gb178, 4, none⟩ = some (.string x179004_3) := (blk_cell BK178.out 4).trans rfl
           have hcz64_5 : wr.cell? ⟨gb178, 5, none⟩ = some (.int .i64 x179005_3) := (blk_cell BK178.out 5).trans rfl
           have hcz64_6 : wr.cell? ⟨gb178, 6, none⟩ = some (.int .i64 x179006_3) := (blk_cell BK178.out 6).trans rfl
           have hfz64_0 := blk_frozen BK178.out 0
           have hfz64_1 := blk_frozen BK178.out 1
           have hfz64_2 := blk_frozen BK178.out 2
           have hfz64_3 := blk_frozen BK178.out 3
           have hfz64_4 := blk_frozen BK178.out 4
           have hfz64_5 := blk_frozen BK178.out 5
           have hfz64_6 := blk_frozen BK178.out 6
           go_wp2
           refine bodyPost_ret (results_ct rfl _ _ gb178 29 #[.int .i64 x183000_3, .int .i64 x183001_3, .int .i64 x183002_3, .int .i64 x183003_3, .string x183004_3, .int .i64 x183005_3, .int .i64 x183006_3] (0, 0) _ rfl (by (with_reducible repeat (first | refine blk_drewN ?_ _ | refine blk_drew ?_ | refine blk_alloc ?_ _)); refine blk_put (cs := #[.int .i64 x183000_3, .int .i64 x183001_3, .int .i64 x183002_3, .int .i64 x183003_3, .string x183004_3, .int .i64 x183005_3, .int .i64 x179006_3]) ?_ 6 _ rfl; (with_reducible repeat (first | refine blk_drewN ?_ _ | refine blk_drew ?_ | refine blk_alloc ?_ _)); refine blk_put (cs := #[.int .i64 x183000_3, .int .i64 x183001_3, .int .i64 x183002_3, .int .i64 x183003_3, .string x183004_3, .int .i64 x179005_3, .int .i64 x179006_3]) ?_ 5 _ rfl; (with_reducible repeat (first | refine blk_drewN ?_ _ | refine blk_drew ?_ | refine blk_alloc ?_ _)); refine blk_put (cs := #[.int .i64 x183000_3, .int .i64 x183001_3, .int .i64 x183002_3, .int .i64 x183003_3, .string x179004_3, .int .i64 x179005_3, .int .i64 x179006_3]) ?_ 4 _ rfl; (with_reducible repeat (first | refine blk_drewN ?_ _ | refine blk_drew ?_ | refine blk_alloc ?_ _)); refine blk_put (cs := #[.int .i64 x183000_3, .int .i64 x183001_3, .int .i64 x183002_3, .int .i64 x179003_3, .string x179004_3, .int .i64 x179005_3, .int .i64 x179006_3]) ?_ 3 _ rfl; (with_reducible repeat (first | refine blk_drewN ?_ _ | refine blk_drew ?_ | refine blk_alloc ?_ _)); refine blk_put (cs := #[.int .i64 x183000_3, .int .i64 x183001_3, .int .i64 x179002_3, .int .i64 x179003_3, .string x179004_3, .int .i64 x179005_3, .int .i64 x179006_3]) ?_ 2 _ rfl; (with_reducible repeat (first | refine blk_drewN ?_ _ | refine blk_drew ?_ | refine blk_alloc ?_ _)); refine blk_put (cs := #[.int .i64 x183000_3, .int .i64 x179001_3, .int .i64 x179002_3, .int .i64 x179003_3, .string x179004_3, .int .i64 x179005_3, .int .i64 x179006_3]) ?_ 1 _ rfl; (with_reducible repeat (first | refine blk_drewN ?_ _ | refine blk_drew ?_ | refine blk_alloc ?_ _)); refine blk_put (cs := #[.int .i64 x179000_3, .int .i64 x179001_3, .int .i64 x179002_3, .int .i64 x179003_3, .string x179004_3, .int .i64 x179005_3, .int .i64 x179006_3]) ?_ 0 _ rfl; (with_reducible repeat (first | refine blk_drewN ?_ _ | refine blk_drew ?_ | refine blk_alloc ?_ _)); exact BK178.out) Tryd.underlying29 rfl (by kernel_rfl)) rfl ?_
           exact ⟨by first | rfl | (simp [errW_none, errW_some] <;> rfl) | (simp [*, errW_none, errW_some] <;> rfl), by repeat (first | (with_reducible first | exact HB.out | apply below_alloc | apply pw_below_drewN | apply below_drew1 | refine below_set ?_ GE178.out | refine below_set ?_ GE182.out) | exact HB.out)⟩
   ·rw [if_neg c3] at H
    have c3b0 : decide (x4_1 ≤ 16) = false := decide_eq_false c3
    clear c3
    simp only [Option.some.injEq, Prod.mk.injEq] at H
    obtain ⟨rfl, rfl, rfl, rfl, rfl, rfl, rfl, rfl⟩ := H
    have hcz65_0 : wr.cell? ⟨gb178, 0, none⟩ = some (.int .i64 x179000_1) := (blk_cell BK178.out 0).trans rfl
    have hcz65_1 : wr.cell? ⟨gb178, 1, none⟩ = some (.int .i64 x179001_1) := (blk_cell BK178.out 1).trans rfl
    have hcz65_2 : wr.cell? ⟨gb178, 2, none⟩ = some (.int .i64 x179002_1) := (blk_cell BK178.out 2).trans rfl
    have hcz65_3 : wr.cell? ⟨gb178, 3, none⟩ = some (.int .i64 x179003_1) := (blk_cell BK178.out 3).trans rfl
    have hcz65_4 : wr.cell? ⟨gb178, 4, none⟩ = some (.string x179004_1) := (blk_cell BK178.out 4).trans rfl
    have hcz65_5 : wr.cell? ⟨gb178, 5, none⟩ = some (.int .i64 x179005_1) := (blk_cell BK178.out 5).trans rfl
    have hcz65_6 : wr.cell? ⟨gb178, 6, none⟩ = some (.int .i64 x179006_1) := (blk_cell BK178.out 6).trans rfl
    have hfz65_0 := blk_frozen BK178.out 0
    have hfz65_1 := blk_frozen BK178.out 1
    have hfz65_2 := blk_frozen BK178.out 2
    have hfz65_3 := blk_frozen BK178.out 3
    have hfz65_4 := blk_frozen BK178.out 4
    have hfz65_5 := blk_frozen BK178.out 5
    have hfz65_6 := blk_frozen BK178.out 6
    go_wp2
    refine bodyPost_ret (results_ct rfl _ _ gb178 29 #[.int .i64 0, .int .i64 0, .int .i64 0, .int .i64 0, .string (⟨#[]⟩ : ByteArray), .int .i64 0, .int .i64 0] (0, 0) _ rfl (by (with_reducible repeat (first | refine blk_drewN ?_ _ | refine blk_drew ?_ | refine blk_alloc ?_ _)); refine blk_put (cs := #[.int .i64 0, .int .i64 0, .int .i64 0, .int .i64 0, .string (⟨#[]⟩ : ByteArray), .int .i64 0, .int .i64 x179006_1]) ?_ 6 _ rfl; (with_reducible repeat (first | refine blk_drewN ?_ _ | refine blk_drew ?_ | refine blk_alloc ?_ _)); refine blk_put (cs := #[.int .i64 0, .int .i64 0, .int .i64 0, .int .i64 0, .string (⟨#[]⟩ : ByteArray), .int .i64 x179005_1, .int .i64 x179006_1]) ?_ 5 _ rfl; (with_reducible repeat (first | refine blk_drewN ?_ _ | refine blk_drew ?_ | refine blk_alloc ?_ _)); refine blk_put (cs := #[.int .i64 0, .int .i64 0, .int .i64 0, .int .i64 0, .string x179004_1, .int .i64 x179005_1, .int .i64 x179006_1]) ?_ 4 _ rfl; (with_reducible repeat (first | refine blk_drewN ?_ _ | refine blk_drew ?_ | refine blk_alloc ?_ _)); refine blk_put (cs := #[.int .i64 0, .int .i64 0, .int .i64 0, .int .i64 x179003_1, .string x179004_1, .int .i64 x179005_1, .int .i64 x179006_1]) ?_ 3 _ rfl; (with_reducible repeat (first | refine blk_drewN ?_ _ | refine blk_drew ?_ | refine blk_alloc ?_ _)); refine blk_put (cs := #[.int .i64 0, .int .i64 0, .int .i64 x179002_1, .int .i64 x179003_1, .string x179004_1, .int .i64 x179005_1, .int .i64 x179006_1]) ?_ 2 _ rfl; (with_reducible repeat (first | refine blk_drewN ?_ _ | refine blk_drew ?_ | refine blk_alloc ?_ _)); refine blk_put (cs := #[.int .i64 0, .int .i64 x179001_1, .int .i64 x179002_1, .int .i64 x179003_1, .string x179004_1, .int .i64 x179005_1, .int .i64 x179006_1]) ?_ 1 _ rfl; (with_reducible repeat (first | refine blk_drewN ?_ _ | refine blk_drew ?_ | refine blk_alloc ?_ _)); refine blk_put (cs := #[.int .i64 x179000_1, .int .i64 x179001_1, .int .i64 x179002_1, .int .i64 x179003_1, .string x179004_1, .int .i64 x179005_1, .int .i64 x179006_1]) ?_ 0 _ rfl; (with_reducible repeat (first | refine blk_drewN ?_ _ | refine blk_drew ?_ | refine blk_alloc ?_ _)); exact BK178.out) Tryd.underlying29 rfl (by kernel_rfl)) rfl ?_
    exact ⟨by first | rfl | (simp [errW_none, errW_some] <;> rfl) | (simp [*, errW_none, errW_some] <;> rfl), by repeat (first | (with_reducible first | exact HB.out | apply below_alloc | apply pw_below_drewN | apply below_drew1 | refine below_set ?_ GE178.out) | exact HB.out)⟩
end Go.Proofs.YtlmdhpfggobogaaDoor.G

namespace Go.Proofs.YtlmdhpfggobogaaDoor.G
open Go.RowKit Go.Proofs.YtlmdhpfggobogaaDoorW.PrintWords Go.Proofs.YtlmdhpfggobogaaDoorW.PrintLast Go.Proofs.YtlmdhpfggobogaaDoorW.PrintMore
attribute [local go_sem] max2_int min2_int max_two min_two max_three min_three max_four min_four   -- for this text's walks alone
set_option linter.unusedVariables false
set_option linter.unusedSimpArgs false
end Go.Proofs.YtlmdhpfggobogaaDoor.G

namespace Go.Proofs.YtlmdhpfggobogaaDoor.G
open Go.RowKit Go.Proofs.YtlmdhpfggobogaaDoorW.PrintWords Go.Proofs.YtlmdhpfggobogaaDoorW.PrintLast Go.Proofs.YtlmdhpfggobogaaDoorW.PrintMore
attribute [local go_sem] max2_int min2_int max_two min_two max_three min_three max_four min_four   -- for this text's walks alone
set_option linter.unusedVariables false
set_option linter.unusedSimpArgs false
end Go.Proofs.YtlmdhpfggobogaaDoor.G
