import Derived.Test.YtlmdhpfggobogaaDoorQSp23
import Derived.Test.YtlmdhpfggobogaaDoorQSp22
/- A printed line is read: its words, its op. -/
namespace Go.Proofs.YtlmdhpfggobogaaDoor.Pure
open Go.Proofs.YtlmdhpfggobogaaDoor.G hiding bytesOf_length
open Go.RowKit Go.Proofs.YtlmdhpfggobogaaDoorW.PrintWords Go.Proofs.YtlmdhpfggobogaaDoorW.PrintLast
open Go.Proofs.YtlmdhpfggobogaaDoor.Dec (digs digs_dig digs_ne)
set_option linter.unusedVariables false
/-! ### The words of words -/
/-! ### The words of a line -/
section
variable (a0 a1 a2 a3 : Int) (a4 : ByteArray) (a5 a6 : Int)
/-! ### The op of the words -/
end
theorem shp_sizes (k : Int) : (bytesOf (shp k).2).length = (shp k).2.size := G.bytesOf_length _
theorem index_none : ∀ (l : List UInt8) (c : UInt8), (c.toNat : Int) ∉ byI l → Lib.indexByte l c = -1
  | [], c, _ => rfl
  | b :: l, c, h => by
    have e : byI (b :: l) = (b.toNat : Int) :: byI l := rfl
    rw [e] at h
    have ih := index_none l c (fun hx => h (by simp [hx]))
    have hb : (b == c) = false := by
      rw [beq_eq_false_iff_ne]
      intro hb
      exact h (by simp [hb])
    unfold Lib.indexByte
    rw [hb, ih]; rfl
theorem no_end (s : ByteArray) (h : (10 : Int) ∉ bytesOf s) : strings_Contains.f s ⟨#[10]⟩ = some false := by
  unfold strings_Contains.f
  rw [if_pos (by decide)]
  show some (decide (0 ≤ Lib.indexByte s.data.toList 10)) = _
  rw [index_none s.data.toList 10 h]
  rfl
end Go.Proofs.YtlmdhpfggobogaaDoor.Pure
