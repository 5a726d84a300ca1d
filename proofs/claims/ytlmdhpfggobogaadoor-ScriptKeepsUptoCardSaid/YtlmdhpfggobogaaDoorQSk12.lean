import Derived.Test.YtlmdhpfggobogaaDoorQSk5
import Derived.Test.YtlmdhpfggobogaaDoorQSk1
import Derived.Lib.SmallJoins
namespace Go.Proofs.YtlmdhpfggobogaaDoor.G
open Go.RowKit Go.Proofs.YtlmdhpfggobogaaDoorW.PrintWords Go.Proofs.YtlmdhpfggobogaaDoorW.PrintLast Go.Proofs.YtlmdhpfggobogaaDoorW.PrintMore
def Tab (w : World) : Prop := Lib.TabIs Tryd.prog w "internal/strconv.uint64pow10" .u64 Lib.pow10Tab
theorem gPow : ∃ g, Tryd.prog.globalNamed "internal/strconv.uint64pow10" = some g := by
  have h : (Tryd.prog.globalNamed "internal/strconv.uint64pow10").isSome = true := by kernel_rfl
  exact Option.isSome_iff_exists.1 h
theorem tab_keep {w w' : World} (h : Aside0 (Tab w)) (hb : Below w.heap.size w w') : Aside0 (Tab w') := by
  obtain ⟨g, hg⟩ := gPow
  exact ⟨Go.Joins.tab_stays hg h.out hb (Nat.le_refl _)⟩
def strconv_Itoa.f (a0 : Int) : Option ByteArray := if -9223372036854775808 ≤ a0 ∧ a0 ≤ 9223372036854775807 then some ⟨(Lib.itoa a0).toArray⟩ else none
theorem strconv_Itoa.calls (a0 : Int) (r : ByteArray) (w : World) (hTab : Aside0 (Tab w)) (h : strconv_Itoa.f a0 = some r) :
    Calls Tryd.prog 31 #[.int .i64 a0] w fun e w' => e = .returned (.string r) ∧ Below w.heap.size w w' := by
  unfold strconv_Itoa.f at h
  split at h
  · rename_i hc
    injection h with h
    subst h
    refine (Tryd.strconv_Itoa a0 hc.1 hc.2 w hTab.out).mono fun e w' ⟨he, k, os, hw⟩ => ⟨he, ?_⟩
    subst hw
    exact ⟨rfl, rfl, rfl, by show w.heap.size ≤ (w.heap ++ os).size; rw [Array.size_append]; omega, fun j hj => by show (w.heap ++ os)[j]? = w.heap[j]?; rw [Array.getElem?_append_left hj]⟩
  · cases h
end Go.Proofs.YtlmdhpfggobogaaDoor.G
