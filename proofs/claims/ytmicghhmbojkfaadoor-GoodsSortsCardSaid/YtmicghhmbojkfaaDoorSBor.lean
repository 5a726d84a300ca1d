/- barrowref02.bytesOrder: the order by bytes. -/
import Derived.Test.YtmicghhmbojkfaaDoorSx0
import Derived.Test.YtmicghhmbojkfaaDoorShelf
import Derived.WalkLawsBesides
namespace Go.Proofs.YtmicghhmbojkfaaDoor.S
open Go.RowKit Go.Proofs.YtmicghhmbojkfaaDoorW.PrintWords Go.Proofs.YtmicghhmbojkfaaDoorW.PrintLast
def barrowref02_bytesOrder.f (a0 : ByteArray) (a1 : ByteArray) : Option Int := some (Lib.compareBytes a0.data.toList a1.data.toList)
theorem less_compare : ∀ (a b : List UInt8), Op.bytesLess a b = decide (Lib.compareBytes a b = -1)
  | [], [] => by simp [Op.bytesLess, Lib.compareBytes]
  | [], _ :: _ => by simp [Op.bytesLess, Lib.compareBytes]
  | _ :: _, [] => by simp [Op.bytesLess, Lib.compareBytes]
  | x :: s, y :: t => by
    simp only [Op.bytesLess, Lib.compareBytes]
    rw [less_compare s t]
    by_cases h : x < y
    · simp [h]
    · by_cases h' : y < x
      · have : x ≠ y := fun e => by subst e; exact absurd h' (by simp)
        simp [h, h', this]
      · have : x = y := by
          rw [UInt8.lt_iff_toNat_lt] at h h'
          exact UInt8.toNat_inj.1 (by omega)
        simp [h', this]
theorem compare_same : ∀ (a b : List UInt8), Lib.compareBytes a b = 0 ↔ a = b
  | [], [] => by simp [Lib.compareBytes]
  | [], _ :: _ => by simp [Lib.compareBytes]
  | _ :: _, [] => by simp [Lib.compareBytes]
  | x :: s, y :: t => by
    simp only [Lib.compareBytes]
    by_cases h : x < y
    · have : x ≠ y := fun e => by subst e; exact absurd h (by simp)
      simp [h, this]
    · by_cases h' : y < x
      · have : x ≠ y := fun e => by subst e; exact absurd h' (by simp)
        simp [h, h', this]
      · have : x = y := by
          rw [UInt8.lt_iff_toNat_lt] at h h'
          exact UInt8.toNat_inj.1 (by omega)
        simp [h', this, compare_same s t]
theorem compare_three : ∀ (a b : List UInt8), Lib.compareBytes a b = -1 ∨ Lib.compareBytes a b = 0 ∨ Lib.compareBytes a b = 1
  | [], [] => by simp [Lib.compareBytes]
  | [], _ :: _ => by simp [Lib.compareBytes]
  | _ :: _, [] => by simp [Lib.compareBytes]
  | x :: s, y :: t => by
    simp only [Lib.compareBytes]
    by_cases h : x < y
    · simp [h]
    · by_cases h' : y < x
      · simp [h, h']
      · simp only [if_neg h, if_neg h']; exact compare_three s t
theorem bytesOrder_walk (a0 a1 : ByteArray) (w : World) (c : Int) (h : Lib.compareBytes a0.toList a1.toList = c) :
    Calls Tryd.prog 39 #[.string a0, .string a1] w fun e w' => e = .returned (.int .i64 c) ∧ Drawn0 w w' := by
  have h1 : Op.bytesLess a0.toList a1.toList = decide (c = -1) := by rw [less_compare, h]
  have h2 : (a0.toList == a1.toList) = decide (c = 0) := by
    rw [Bool.eq_iff_iff, beq_iff_eq, decide_eq_true_eq, ← compare_same, h]
  have hc : c = -1 ∨ c = 0 ∨ c = 1 := by rw [← h]; exact compare_three _ _
  clear h
  rcases hc with rfl | rfl | rfl
  · have h3 : Op.bytesLess a0.toList a1.toList = true := h1
    clear h1 h2
    go_enter Tryd.func39, Tryd.ntmps39
    go_wp2
    go_ret
    exact ⟨rfl, Drawn0.refl _⟩
  · have h3 : Op.bytesLess a0.toList a1.toList = false := h1
    have h4 : (a0.toList == a1.toList) = true := h2
    clear h1 h2
    go_enter Tryd.func39, Tryd.ntmps39
    go_wp2
    go_ret
    exact ⟨rfl, Drawn0.refl _⟩
  · have h3 : Op.bytesLess a0.toList a1.toList = false := h1
    have h4 : (a0.toList == a1.toList) = false := h2
    clear h1 h2
    go_enter Tryd.func39, Tryd.ntmps39
    go_wp2
    go_ret
    exact ⟨rfl, Drawn0.refl _⟩
theorem barrowref02_bytesOrder.calls (a0 : ByteArray) (a1 : ByteArray) (r : Int) (w : World) (h : barrowref02_bytesOrder.f a0 a1 = some r) :
    Calls Tryd.prog 39 #[.string a0, .string a1] w fun e w' => e = .returned (.int .i64 r) ∧ Drawn0 w w' := by
  unfold barrowref02_bytesOrder.f at h
  simp only [Option.some.injEq] at h
  exact bytesOrder_walk a0 a1 w r (by rw [ByteArray.toList_eq, ByteArray.toList_eq]; exact h)
end Go.Proofs.YtmicghhmbojkfaaDoor.S
