import Derived.Test.YtlmdhpfggobogaaDoorQSm5
import Derived.Test.YtlmdhpfggobogaaDoorQSm1
import Derived.Shelf.Strings.BuilderK
namespace Go.Proofs.YtlmdhpfggobogaaDoor.G
open Go.RowKit Go.Proofs.YtlmdhpfggobogaaDoorW.PrintWords Go.Proofs.YtlmdhpfggobogaaDoorW.PrintLast Go.Proofs.YtlmdhpfggobogaaDoorW.PrintMore
set_option linter.unusedVariables false
end Go.Proofs.YtlmdhpfggobogaaDoor.G
