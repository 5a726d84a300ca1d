import Derived.Test.YtlmdhpfggobogaaDoorQSm14
import Derived.Test.YtlmdhpfggobogaaDoorQSm11
import Derived.Test.YtlmdhpfggobogaaDoorQSm7
namespace Go.Proofs.YtlmdhpfggobogaaDoor.G
open Go.RowKit Go.Proofs.YtlmdhpfggobogaaDoorW.PrintWords Go.Proofs.YtlmdhpfggobogaaDoorW.PrintLast Go.Proofs.YtlmdhpfggobogaaDoorW.PrintMore
set_option linter.unusedVariables false
def okS (o : S29) : Prop := okO o.f0 o.f1 o.f2 o.f3 o.f4 o.f5 o.f6
instance (o : S29) : Decidable (okS o) := inferInstanceAs (Decidable (okO _ _ _ _ _ _ _))
def headNums (a0 a1 a2 a3 a4 a5 : Int) : List Int := [a0, a1, a2, a3, a4, a5]
def okP (a0 a1 a2 a3 a4 a5 : Int) (l : List S29) : Prop := (∀ n ∈ headNums a0 a1 a2 a3 a4 a5, inI n) ∧ l.length ≤ 1048576 ∧ ∀ o ∈ l, okS o
instance (a0 a1 a2 a3 a4 a5 : Int) (l : List S29) : Decidable (okP a0 a1 a2 a3 a4 a5 l) := inferInstanceAs (Decidable (_ ∧ _))
def toN : Value → Nat
  | .int _ n => n.toNat
  | _ => 0
theorem wrap_succ (i : Nat) (h : i < 4611686018427387904) : wrap64 ((i : Int) + 1) = ((i + 1 : Nat) : Int) := by unfold wrap64; omega
theorem head_cell (hd i : Nat) (h : i < 6) : (headRow hd)[i]? = some (.pointer (some ⟨hd, i, none⟩)) := by
  rcases i with _ | _ | _ | _ | _ | _ | i <;> first | rfl | omega
end Go.Proofs.YtlmdhpfggobogaaDoor.G
