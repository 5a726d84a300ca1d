/- BarrowNames: a closed sentence: its printed function, with rounds enough. -/
import Derived.Test.YtmoaclfjkmjkhaaGx2
namespace Go.Proofs.Ytmoaclfjkmjkhaa.Pure
open Go.RowKit Go.Proofs.Ytmoaclfjkmjkhaa.G Go.Proofs.YtmoaclfjkmjkhaaW.PrintWords Go.Proofs.YtmoaclfjkmjkhaaW.PrintLast
theorem BarrowNames : barrowtop_BarrowNames.Pure := ⟨200, by decide +kernel⟩
end Go.Proofs.Ytmoaclfjkmjkhaa.Pure
