import Derived.Test.YtlmdhpfggobogaaDoorQSq6
import Derived.Test.YtlmdhpfggobogaaDoorQSq9
import Derived.Test.YtlmdhpfggobogaaDoorQSq10
import Derived.Test.YtlmdhpfggobogaaDoorQSq7
namespace Go.Proofs.YtlmdhpfggobogaaDoor.G
open Go.RowKit Go.Proofs.YtlmdhpfggobogaaDoorW.PrintWords Go.Proofs.YtlmdhpfggobogaaDoorW.PrintLast
open Go.Proofs.YtlmdhpfggobogaaDoor.Dec (digs sdig sdig_pos sdig_zero sdig_len decDigits_digs)
set_option linter.unusedVariables false
theorem w64 {x : Int} (h1 : -9223372036854775808 ≤ x) (h2 : x < 9223372036854775808) : wrap64 x = x := by unfold wrap64; omega
theorem w64_nat (n : Nat) (h : n < 4611686018427387904) : wrap64 ((n : Int) + 1) = ((n + 1 : Nat) : Int) := by unfold wrap64; omega
theorem bt_range (s : ByteArray) (i : Int) : 0 ≤ bt s i ∧ bt s i ≤ 255 := by
  unfold bt
  split
  · rename_i h; have := UInt8.toNat_lt (s.get i.toNat h); constructor <;> first | omega | (show ((s.get i.toNat h).toNat : Int) ≤ 255; omega)
  · omega
theorem bytes_mk (l : List UInt8) : bytesOf ⟨l.toArray⟩ = l.map fun c => (c.toNat : Int) := rfl
def inI (n : Int) : Prop := -9223372036854775808 ≤ n ∧ n ≤ 9223372036854775807
def numI (n : Int) : List Int := if n < 0 then 45 :: digs n.natAbs else digs n.natAbs
def itoaB (n : Int) : ByteArray := ⟨(Lib.itoa n).toArray⟩
theorem itoa_bytes (n : Int) : bytesOf (itoaB n) = numI n := by
  unfold itoaB numI
  rw [bytes_mk]
  unfold Lib.itoa
  split
  · rw [List.map_cons, decDigits_digs]; rfl
  · have : n.natAbs = n.toNat := by omega
    rw [decDigits_digs, this]
theorem digs_len20 (n : Nat) (h : n ≤ 9223372036854775808) : (digs n).length ≤ 19 := by
  unfold digs
  split
  · simp
  · exact sdig_len n 19 (by omega)
theorem numI_len (n : Int) (h : inI n) : (numI n).length ≤ 20 := by
  have := digs_len20 n.natAbs (by unfold inI at h; omega)
  unfold numI
  split
  · simp; omega
  · omega
def hexB : ByteArray := ⟨#[48, 49, 50, 51, 52, 53, 54, 55, 56, 57, 97, 98, 99, 100, 101, 102]⟩
def litI (c : Int) : Bool := decide (33 ≤ c ∧ c ≤ 126 ∧ c ≠ 34 ∧ c ≠ 92)
def goodI (l : List Int) : Bool := (checkL l).2 == 0
theorem literal_eq (c : Int) : script_literal.f c = some (litI c) := by
  unfold script_literal.f litI
  by_cases h1 : c ≥ 33
  · rw [if_pos h1]
    by_cases h2 : c ≤ 126
    · rw [if_pos h2]
      by_cases h3 : c = 34
      · rw [if_pos h3]; subst h3; rfl
      · rw [if_neg h3]; congr 1
        by_cases h4 : c = 92
        · subst h4; rfl
        · have : (c != 92) = true := by simpa using h4
          rw [this]; symm; simp; omega
    · rw [if_neg h2]; congr 1; symm; simp; omega
  · rw [if_neg h1]; congr 1; symm; simp; omega
theorem plainByte_eq (c : Int) : barrowref24_plainByte.f c = some (litI c) := literal_eq c
theorem good_ev (s : ByteArray) : Ev (fun k => goods_Good.f k s) (goodI (bytesOf s)) := by
  refine ⟨49, fun k hk => ?_⟩
  show goods_Good.f k s = _
  unfold goods_Good.f
  rw [check_eq s k (by omega)]
  rfl
theorem rgood_ev (s : ByteArray) : Ev (fun k => barrowref02_Good.f k s) (goodI (bytesOf s)) := by
  refine ⟨49, fun k hk => ?_⟩
  show barrowref02_Good.f k s = _
  unfold barrowref02_Good.f
  rw [rcheck_eq s k (by omega)]
  rfl
end Go.Proofs.YtlmdhpfggobogaaDoor.G

namespace Go.Proofs.YtlmdhpfggobogaaDoor.G
open Go.RowKit Go.Proofs.YtlmdhpfggobogaaDoorW.PrintWords Go.Proofs.YtlmdhpfggobogaaDoorW.PrintLast
set_option linter.unusedVariables false
instance (n : Int) : Decidable (inI n) := inferInstanceAs (Decidable (_ ∧ _))
def shp (a0 : Int) : ByteArray × ByteArray := (script_shapeOf.f a0).getD (⟨#[]⟩, ⟨#[]⟩)
theorem some_ite {α : Type} {c : Prop} [Decidable c] {x y : Option α} (h1 : x.isSome = true) (h2 : y.isSome = true) : (if c then x else y).isSome = true := by split <;> assumption
theorem shp_eq (a0 : Int) : script_shapeOf.f a0 = some (shp a0) := by
  have h : (script_shapeOf.f a0).isSome = true := by
    unfold script_shapeOf.f
    repeat' first | rfl | apply some_ite
  unfold shp
  obtain ⟨v, hv⟩ := Option.isSome_iff_exists.1 h
  rw [hv]; rfl
def rword (a0 : Int) : ByteArray := (barrowref24_word.f a0).getD ⟨#[]⟩
def rshape (a0 : Int) : ByteArray := (barrowref24_shape.f a0).getD ⟨#[]⟩
theorem rword_eq (a0 : Int) : barrowref24_word.f a0 = some (rword a0) := by
  have h : (barrowref24_word.f a0).isSome = true := by
    unfold barrowref24_word.f
    repeat' first | rfl | apply some_ite
  unfold rword
  obtain ⟨v, hv⟩ := Option.isSome_iff_exists.1 h
  rw [hv]; rfl
theorem rshape_eq (a0 : Int) : barrowref24_shape.f a0 = some (rshape a0) := by
  have h : (barrowref24_shape.f a0).isSome = true := by
    unfold barrowref24_shape.f
    repeat' first | rfl | apply some_ite
  unfold rshape
  obtain ⟨v, hv⟩ := Option.isSome_iff_exists.1 h
  rw [hv]; rfl
def opWord : ByteArray := ⟨#[111, 112]⟩
theorem out_of {a0 : Int} (h : a0 < 1 ∨ 16 < a0) : shp a0 = (opWord, ⟨#[107]⟩) ∧ rword a0 = opWord ∧ rshape a0 = ⟨#[75]⟩ := by
  refine ⟨?_, ?_, ?_⟩
  · unfold shp script_shapeOf.f
    (repeat rw [if_neg (by omega)]); rfl
  · unfold rword barrowref24_word.f
    (repeat rw [if_neg (by omega)]); rfl
  · unfold rshape barrowref24_shape.f
    (repeat rw [if_neg (by omega)]); rfl
def upL (c : Int) : Int := c - 32
theorem shapes (a0 : Int) : rword a0 = (shp a0).1 ∧ bytesOf (rshape a0) = (bytesOf (shp a0).2).map upL ∧ (∀ c ∈ bytesOf (shp a0).2, c = 115 ∨ c = 114 ∨ c = 99 ∨ c = 116 ∨ c = 113 ∨ c = 110 ∨ c = 107) ∧ (shp a0).1.size ≤ 8 ∧ (shp a0).2.size ≤ 4 := by
  rcases kind_cases a0 with rfl | rfl | rfl | rfl | rfl | rfl | rfl | rfl | rfl | rfl | rfl | rfl | rfl | rfl | rfl | rfl | h | h
  all_goals try exact ⟨rfl, rfl, by decide, by decide, by decide⟩
  all_goals
    obtain ⟨e1, e2, e3⟩ := out_of (a0 := a0) (by omega)
    rw [e1, e2, e3]
    exact ⟨rfl, rfl, by decide, by decide, by decide⟩
def okO (a0 a1 a2 a3 : Int) (a4 : ByteArray) (a5 a6 : Int) : Prop := inI a0 ∧ inI a1 ∧ inI a2 ∧ inI a3 ∧ a4.size ≤ 1048576 ∧ inI a5 ∧ inI a6
instance (a0 a1 a2 a3 : Int) (a4 : ByteArray) (a5 a6 : Int) : Decidable (okO a0 a1 a2 a3 a4 a5 a6) := inferInstanceAs (Decidable (_ ∧ _))
end Go.Proofs.YtlmdhpfggobogaaDoor.G
