/- Small words for printed span functions: numbers, rows, rounds. -/
import Derived.Test.YtlmdcpooogaolaaDoorTh
namespace Go.Proofs.YtlmdcpooogaolaaDoor.Pure
open Go.RowKit Go.Proofs.YtlmdcpooogaolaaDoor.G Go.Proofs.YtlmdcpooogaolaaDoorW.PrintWords Go.Proofs.YtlmdcpooogaolaaDoorW.PrintLast Go.Proofs.YtlmdcpooogaolaaDoorW.PrintMore
set_option linter.unusedVariables false
theorem w64 {x : Int} (h1 : -9223372036854775808 ≤ x) (h2 : x < 9223372036854775808) : wrap64 x = x := by unfold wrap64; omega
theorem w64_nat (n : Nat) (h : n < 4611686018427387904) : wrap64 ((n : Int) + 1) = ((n + 1 : Nat) : Int) := by unfold wrap64; omega
theorem rdT (pre suf : List S32) (r : S32) : rd_T32 (pre ++ r :: suf) (pre.length : Int) = r := by
  unfold rd_T32
  rw [Int.toNat_natCast, List.getD_eq_getElem?_getD, List.getElem?_append_right (Nat.le_refl _), Nat.sub_self]
  rfl
theorem Ev.succ {α : Type} {g : Nat → Option α} {r : α} (h : Ev (fun k => g (k + 1)) r) : Ev g r := Ev.step (f := fun k => g (k + 1)) (fun _ => rfl) h
abbrev Fit (l : List S32) : Prop := l.length ≤ 8796093022208
theorem Norm.fit {l : List S32} (h : Norm l) : Fit l := by have := h.len; unfold Fit; omega
theorem rdL (pre suf : List (List S32)) (r : List S32) : rd_L2 (pre ++ r :: suf) (pre.length : Int) = r := by
  unfold rd_L2
  rw [Int.toNat_natCast, List.getD_eq_getElem?_getD, List.getElem?_append_right (Nat.le_refl _), Nat.sub_self]
  rfl
end Go.Proofs.YtlmdcpooogaolaaDoor.Pure
