import Derived.Test.YtlmdhpfggobogaaDoorQSq11
import Derived.Test.YtlmdhpfggobogaaDoorQSq13
import Derived.Test.YtlmdhpfggobogaaDoorQSq10
import Derived.Lib.OthersKept
namespace Go.Proofs.YtlmdhpfggobogaaDoor.G
open Go.RowKit Go.Proofs.YtlmdhpfggobogaaDoorW.PrintWords Go.Proofs.YtlmdhpfggobogaaDoorW.PrintLast Go.Proofs.YtlmdhpfggobogaaDoorW.PrintMore
set_option linter.unusedVariables false
theorem st74 {ops : Array Oper} {rest : List Oper} {o : Oper} {a : Act} {Q : Exit → Act → World → Prop} {w : World} {O C : Array Value} {x y : Operand} (hgd : o.guard = none)
  (ho : o.op = .store 74 x y) (hd : o.dst = none) (hx : a.eval x = .pointer (some ⟨w.heap.size, 0, none⟩)) (hy : a.eval y = .agg C)
  (hO : O.size = 2) (hC : C.size = 2) (h1 : C.all (·.oneCell') = true) (h : wpList Tryd.prog ops Q rest a (w.alloc (.cells C 74))) :
  wpList Tryd.prog ops Q (o :: rest) a (w.alloc (.cells O 74)) :=
 wpList_store_rowTo hgd 74 x y ho hd w.heap.size C hx hy 74 O (heap_alloc_last w _) (by rw [hC]; kernel_rfl) (by omega) h1
  (by rw [show (w.alloc (.cells O 74)).setRow w.heap.size C = w.alloc (.cells C 74) from World.setRow_alloc_new w O C 74]; exact h)
end Go.Proofs.YtlmdhpfggobogaaDoor.G
