import Derived.Test.YtlmdcpooogaolaaDoorQSh12
import Derived.Test.YtlmdcpooogaolaaDoorQSh10
import Derived.Lib.CutLaws
/- Texts of runs: pieces between commas, two numbers with two dots between; lists of bytes alone. -/
namespace Go.Proofs.YtlmdcpooogaolaaDoor.Txt
open Go.RowKit Go.Proofs.YtlmdcpooogaolaaDoor.G Go.Proofs.YtlmdcpooogaolaaDoor.Dec Go.Proofs.YtlmdcpooogaolaaDoor.Pure Go.Proofs.YtlmdcpooogaolaaDoorW.PrintWords Go.Proofs.YtlmdcpooogaolaaDoorW.PrintLast
set_option linter.unusedVariables false
/-! ### Pieces -/
def joinL : List (List Int) → List Int
  | [] => []
  | [p] => p
  | p :: q :: r => p ++ 44 :: joinL (q :: r)
/-! ### A run's text -/
def runText (r : S32) : List Int := digs r.f0.toNat ++ (if r.f0 < r.f1 then 46 :: 46 :: digs r.f1.toNat else [])
def txt (l : List S32) : List Int := joinL (l.map runText)
/-! ### Numbers -/
theorem digs_len10 (n : Nat) (h : n ≤ 1000000000) : (digs n).length ≤ 10 := by
  unfold digs
  split
  · simp
  · exact sdig_len n 10 (by omega)
/-! ### The strict piece, the loose piece -/
end Go.Proofs.YtlmdcpooogaolaaDoor.Txt
