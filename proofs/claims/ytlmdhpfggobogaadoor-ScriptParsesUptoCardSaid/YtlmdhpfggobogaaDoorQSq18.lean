import Derived.Test.YtlmdhpfggobogaaDoorQSq17
import Derived.Laws.CopyOwn
import Derived.Laws.Tables
namespace Go.Proofs.YtlmdhpfggobogaaDoor.G
open Go.RowKit Go.Proofs.YtlmdhpfggobogaaDoorW.PrintWords Go.Proofs.YtlmdhpfggobogaaDoorW.PrintLast Go.Proofs.YtlmdhpfggobogaaDoorW.PrintMore
set_option linter.unusedVariables false
section
variable {P : Program}
end
def cellsA (o : S29) : Array Value := #[.int .i64 o.f0, .int .i64 o.f1, .int .i64 o.f2, .int .i64 o.f3, .string o.f4, .int .i64 o.f5, .int .i64 o.f6]
def tupO (o : S29) : Int × Int × Int × Int × ByteArray × Int × Int := (o.f0, o.f1, o.f2, o.f3, o.f4, o.f5, o.f6)
theorem st29at {ops : Array Oper} {rest : List Oper} {o : Oper} {a : Act} {Q : Exit → Act → World → Prop} {w : World} {g : Nat} {O C : Array Value} {x y : Operand} (hgd : o.guard = none)
  (ho : o.op = .store 29 x y) (hd : o.dst = none) (hx : a.eval x = .pointer (some ⟨g, 0, none⟩)) (hy : a.eval y = .agg C) (hg : w.heap[g]? = some (.cells O 29 (0, 0)))
  (hO : O.size = 7) (hC : C.size = 7) (h1 : C.all (·.oneCell') = true) (h : ∀ w2, w2.heap[g]? = some (.cells C 29 (0, 0)) → (∀ k o, w.heap[k]? = some o → k ≠ g → w2.heap[k]? = some o) → (∀ B w0, Below B w0 w → B ≤ g → Below B w0 w2) → wpList Tryd.prog ops Q rest a w2) :
  wpList Tryd.prog ops Q (o :: rest) a w :=
 wpList_store_rowTo hgd 29 x y ho hd g C hx hy 29 O hg (by rw [hC]; kernel_rfl) (by omega) h1 (h _ (setRow_heap w g O C 29 (0, 0) hg) (fun k o hk hne => (setRow_other w g k C hne).trans hk) (fun B w0 hb hB => below_setRow hb hB C))
end Go.Proofs.YtlmdhpfggobogaaDoor.G
