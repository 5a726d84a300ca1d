import Derived.Test.YtlmdhpfggobogaaDoorQSf5
import Derived.Test.YtlmdhpfggobogaaDoorQSf1
import Derived.Shelf.Strings.BuilderK
/- strings.Builder's copyCheck and WriteString as this program's dump has them (copyCheck's second way is a refusal there, so the shelf's contract does not lie on it). -/
namespace Go.Proofs.YtlmdhpfggobogaaDoor.G
open Go.RowKit Go.Proofs.YtlmdhpfggobogaaDoorW.PrintWords Go.Proofs.YtlmdhpfggobogaaDoorW.PrintLast Go.Proofs.YtlmdhpfggobogaaDoorW.PrintMore
set_option linter.unusedVariables false
end Go.Proofs.YtlmdhpfggobogaaDoor.G
