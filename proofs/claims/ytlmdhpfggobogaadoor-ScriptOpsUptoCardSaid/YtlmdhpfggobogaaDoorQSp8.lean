import Derived.Test.YtlmdhpfggobogaaDoorQSp5
import Derived.BigRegion
/- script.heads: the places of a head's six numbers, in their order. -/
namespace Go.Proofs.YtlmdhpfggobogaaDoor.G
open Go.RowKit Go.Proofs.YtlmdhpfggobogaaDoorW.PrintWords Go.Proofs.YtlmdhpfggobogaaDoorW.PrintLast Go.Proofs.YtlmdhpfggobogaaDoorW.PrintMore
set_option linter.unusedVariables false
end Go.Proofs.YtlmdhpfggobogaaDoor.G
