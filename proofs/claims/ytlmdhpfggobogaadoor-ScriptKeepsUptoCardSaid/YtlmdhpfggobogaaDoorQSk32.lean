import Derived.Test.YtlmdhpfggobogaaDoorQSk30
import Derived.Test.YtlmdhpfggobogaaDoorQSk31
import Derived.ChangeSlices
import Derived.ChangeSame
import Derived.SizedLaws
import Derived.WalkKit
import Derived.ProofKit
import Derived.OpenShut
namespace Go.Proofs.YtlmdhpfggobogaaDoor.Br
open Go.ChangeShapes Go.WideShapes Go.Deep Go.RowKit
open Go.Proofs.YtlmdhpfggobogaaDoor.G Go.Proofs.YtlmdhpfggobogaaDoorW.PrintWords Go.Proofs.YtlmdhpfggobogaaDoorW.PrintLast
set_option linter.unusedVariables false
theorem op_bulk8 {H : Type} {d : DataW H} {o : S29} (hD : DatX d o) : o.f4.size + 8 ≤ Rows.uptoBulk d := by
  obtain ⟨rfl, _⟩ := hD
  simp only [Rows.uptoBulk, Rows.uptoBulkAll]
  rw [Lib.size_eq]
  omega
theorem wgt8_range {H : Type} (D : Nat → DataW H) (R : Nat → S29) : ∀ n : Nat, (∀ i, i < n → DatX (D i) (R i)) → Pure.wgt8 ((List.range n).map R) ≤ Rows.uptoBulkAll ((List.range n).map D) := by
  have key : ∀ l : List Nat, (∀ i ∈ l, DatX (D i) (R i)) → Pure.wgt8 (l.map R) ≤ Rows.uptoBulkAll (l.map D) := by
    intro l
    induction l with
    | nil => intro _; simp [Pure.wgt8]
    | cons i t ih =>
      intro h
      have h1 := op_bulk8 (h i (by simp))
      have h2 := ih (fun j hj => h j (by simp [hj]))
      simp only [List.map_cons, Rows.uptoBulkAll]
      have h3 : Pure.wgt8 (R i :: t.map R) = (R i).f4.size + 8 + Pure.wgt8 (t.map R) := rfl
      omega
  intro n h
  exact key _ (fun i hi => h i (List.mem_range.1 hi))
theorem script_wgt8 {H : Type} {a0 a1 a2 a3 a4 a5 : Int} {dl : DataW H} {l : List S29} {ds : List (DataW H)} (hk : Rows.uptoSmall H ds = true)
    (hd : DataW.agg [.agg [.lit (.int .i64 a0), .lit (.int .i64 a1), .lit (.int .i64 a2), .lit (.int .i64 a3), .lit (.int .i64 a4), .lit (.int .i64 a5)], dl] ∈ ds) (hD : DatO dl l) : Pure.wgt8 l ≤ 1048576 := by
  have h : Rows.uptoBulkAll ds ≤ 1048576 := of_decide_eq_true hk
  have h1 := part_le hd
  simp only [Rows.uptoBulk, Rows.uptoBulkAll] at h1
  rcases hD with ⟨rfl, _⟩ | ⟨n, D, R, spare, rfl, rfl, hX⟩
  · simp [Pure.wgt8]
  · have := wgt8_range D R n hX
    simp only [Rows.uptoBulk] at h1
    omega
end Go.Proofs.YtlmdhpfggobogaaDoor.Br
