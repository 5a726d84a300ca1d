import Derived.Test.YtlmdhpfggobogaaDoorQSk25
import Derived.Test.YtlmdhpfggobogaaDoorQSk30
import Derived.Test.YtlmdhpfggobogaaDoorQSk18
import Derived.RangeFuncOwn
namespace Go.Proofs.YtlmdhpfggobogaaDoor.Br
open Go.RowKit Go.Proofs.YtlmdhpfggobogaaDoor.G
set_option linter.unusedVariables false
theorem tabM_of {W : World} (h : W.ShapedOpen Tryd.prog) : G.TabM W := by
  obtain ⟨m, hm⟩ := Tryd.laysM146.s1_3 W h
  refine ⟨m, hm, ?_⟩
  obtain ⟨o, ho, _⟩ := Go.cells_of_cell hm
  exact Nat.lt_of_le_of_lt (Nat.zero_le _) (Array.getElem?_eq_some_iff.1 ho).1
end Go.Proofs.YtlmdhpfggobogaaDoor.Br
