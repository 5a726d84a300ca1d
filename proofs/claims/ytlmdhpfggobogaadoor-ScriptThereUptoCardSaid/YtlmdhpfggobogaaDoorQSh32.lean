import Derived.Test.YtlmdhpfggobogaaDoorQSh25
import Derived.Test.YtlmdhpfggobogaaDoorQSh31
import Derived.Test.YtlmdhpfggobogaaDoorQSh18
import Derived.RangeFuncOwn
/- The library's MaxLen, out of the world's shape; what a small script weighs. -/
namespace Go.Proofs.YtlmdhpfggobogaaDoor.Br
open Go.RowKit Go.Proofs.YtlmdhpfggobogaaDoor.G
set_option linter.unusedVariables false
theorem tabM_of {W : World} (h : W.ShapedOpen Tryd.prog) : G.TabM W := by
  obtain ⟨m, hm⟩ := Tryd.laysM146.s1_3 W h
  refine ⟨m, hm, ?_⟩
  obtain ⟨o, ho, _⟩ := Go.cells_of_cell hm
  exact Nat.lt_of_le_of_lt (Nat.zero_le _) (Array.getElem?_eq_some_iff.1 ho).1
theorem op_bulk {H : Type} {d : DataW H} {o : S29} (hD : DatX d o) : o.f4.size + 1 ≤ Rows.uptoBulk d := by
  obtain ⟨rfl, _⟩ := hD
  simp only [Rows.uptoBulk, Rows.uptoBulkAll]
  rw [Lib.size_eq]
  omega
theorem wgt_range {H : Type} (D : Nat → DataW H) (R : Nat → S29) : ∀ n : Nat, (∀ i, i < n → DatX (D i) (R i)) → Pure.wgt ((List.range n).map R) ≤ Rows.uptoBulkAll ((List.range n).map D) := by
  have key : ∀ l : List Nat, (∀ i ∈ l, DatX (D i) (R i)) → Pure.wgt (l.map R) ≤ Rows.uptoBulkAll (l.map D) := by
    intro l
    induction l with
    | nil => intro _; simp [Pure.wgt]
    | cons i t ih =>
      intro h
      have h1 := op_bulk (h i (by simp))
      have h2 := ih (fun j hj => h j (by simp [hj]))
      simp only [List.map_cons, Rows.uptoBulkAll]
      have h3 : Pure.wgt (R i :: t.map R) = (R i).f4.size + 1 + Pure.wgt (t.map R) := rfl
      omega
  intro n h
  exact key _ (fun i hi => h i (List.mem_range.1 hi))
theorem ops_wgt {H : Type} {d : DataW H} {l : List S29} (hD : DatO d l) : Pure.wgt l ≤ Rows.uptoBulk d := by
  rcases hD with ⟨rfl, _⟩ | ⟨n, D, R, spare, rfl, rfl, hX⟩
  · simp [Pure.wgt]
  · have := wgt_range D R n hX
    simp only [Rows.uptoBulk]
    omega
theorem script_wgt {H : Type} {a0 a1 a2 a3 a4 a5 : Int} {dl : DataW H} {l : List S29} {ds : List (DataW H)} (hk : Rows.uptoSmall H ds = true)
    (hd : DataW.agg [.agg [.lit (.int .i64 a0), .lit (.int .i64 a1), .lit (.int .i64 a2), .lit (.int .i64 a3), .lit (.int .i64 a4), .lit (.int .i64 a5)], dl] ∈ ds) (hD : DatO dl l) : Pure.wgt l ≤ 1048576 := by
  have h : Rows.uptoBulkAll ds ≤ 1048576 := of_decide_eq_true hk
  have h1 := part_le hd
  simp only [Rows.uptoBulk, Rows.uptoBulkAll] at h1
  have h2 := ops_wgt hD
  omega
end Go.Proofs.YtlmdhpfggobogaaDoor.Br
