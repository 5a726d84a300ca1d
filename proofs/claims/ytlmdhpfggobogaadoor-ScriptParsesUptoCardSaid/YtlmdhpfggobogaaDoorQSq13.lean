import Derived.Test.YtlmdhpfggobogaaDoorQSq5
import Derived.Test.YtlmdhpfggobogaaDoorQSq1
import Derived.Lib.SmallJoins
namespace Go.Proofs.YtlmdhpfggobogaaDoor.G
open Go.RowKit Go.Proofs.YtlmdhpfggobogaaDoorW.PrintWords Go.Proofs.YtlmdhpfggobogaaDoorW.PrintLast Go.Proofs.YtlmdhpfggobogaaDoorW.PrintMore
def Tab (w : World) : Prop := Lib.TabIs Tryd.prog w "internal/strconv.uint64pow10" .u64 Lib.pow10Tab
theorem gPow : ∃ g, Tryd.prog.globalNamed "internal/strconv.uint64pow10" = some g := by
  have h : (Tryd.prog.globalNamed "internal/strconv.uint64pow10").isSome = true := by kernel_rfl
  exact Option.isSome_iff_exists.1 h
theorem tab_keep {w w' : World} (h : Aside0 (Tab w)) (hb : Below w.heap.size w w') : Aside0 (Tab w') := by
  obtain ⟨g, hg⟩ := gPow
  exact ⟨Go.Joins.tab_stays hg h.out hb (Nat.le_refl _)⟩
end Go.Proofs.YtlmdhpfggobogaaDoor.G
