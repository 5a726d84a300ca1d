import Derived.Test.YtlmdhpfggobogaaDoorQSq24
import Derived.Test.YtlmdhpfggobogaaDoorQSq23
namespace Go.Proofs.YtlmdhpfggobogaaDoor.Pure
open Go.Proofs.YtlmdhpfggobogaaDoor.G hiding bytesOf_length
open Go.RowKit Go.Proofs.YtlmdhpfggobogaaDoorW.PrintWords Go.Proofs.YtlmdhpfggobogaaDoorW.PrintLast
open Go.Proofs.YtlmdhpfggobogaaDoor.Dec (digs digs_dig digs_ne)
set_option linter.unusedVariables false
section
variable (a0 a1 a2 a3 : Int) (a4 : ByteArray) (a5 a6 : Int)
end
theorem shp_sizes (k : Int) : (bytesOf (shp k).2).length = (shp k).2.size := G.bytesOf_length _
end Go.Proofs.YtlmdhpfggobogaaDoor.Pure
