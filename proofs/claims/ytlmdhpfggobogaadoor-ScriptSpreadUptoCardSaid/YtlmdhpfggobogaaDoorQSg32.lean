import Derived.Test.YtlmdhpfggobogaaDoorQSg30
import Derived.Test.YtlmdhpfggobogaaDoorQSg31
import Derived.ChangeSlices
import Derived.ChangeSame
import Derived.SizedLaws
import Derived.WalkKit
import Derived.ProofKit
import Derived.OpenShut
namespace Go.Proofs.YtlmdhpfggobogaaDoor.Br
open Go.ChangeShapes Go.WideShapes Go.Deep Go.RowKit
open Go.Proofs.YtlmdhpfggobogaaDoor.G Go.Proofs.YtlmdhpfggobogaaDoorW.PrintWords Go.Proofs.YtlmdhpfggobogaaDoorW.PrintLast
set_option linter.unusedVariables false
theorem lits_bulk {H : Type} (k : IntKind) : ∀ l : List Int, Rows.uptoBulkAll (lits (H := H) k l) = l.length
  | [] => rfl
  | x :: t => by
    have ih := lits_bulk (H := H) k t
    simp only [lits, List.map_cons] at ih ⊢
    simp only [Rows.uptoBulkAll, Rows.uptoBulk, ih, List.length_cons]
    omega
theorem wf_u8 {n : Int} (h : (Lit.int .u8 n).wf = true) : 0 ≤ n ∧ n ≤ 255 := by
  exact bounds_u8 h
theorem open_u8 {H : Type} {enc : TypeId × Value → H} {W : World} {d : DataW H} {p : List MemPlace} {a : Option Addr} {len cap : Nat}
    (h : DataW.Trod enc Tryd.prog W 0 (fun _ => true) true 48 (.slice a len cap) d p) :
    ∃ l : List Int, len = l.length ∧ l.length ≤ cap ∧ Kd.C (Kd.int .u8) W a l.length l ∧ (∀ x ∈ l, 0 ≤ x ∧ x ≤ 255) ∧ l.length ≤ Rows.uptoBulk d := by
  obtain ⟨fuel, hf⟩ := h
  rcases open_ints Tryd.underlying48 Tryd.underlying5 (by kernel_rfl) hf with ⟨hcs, _⟩ | ⟨x, l, c, zs, hcs, _, hl, hm, hz, hx, hcell, hwz⟩
  · simp [Value.cells] at hcs
    obtain ⟨rfl, rfl, rfl⟩ := hcs
    exact ⟨[], rfl, Nat.le_refl _, ⟨rfl, by decide, fun h => absurd h (by decide)⟩, by simp, Nat.zero_le _⟩
  · simp [Value.cells] at hcs
    obtain ⟨rfl, rfl, rfl⟩ := hcs
    rw [if_pos rfl] at hz
    have ht : (zs.take len).length = len := by rw [List.length_take, hz]; omega
    refine ⟨zs.take len, ht.symm, by rw [ht]; exact hl, ?_, fun y hy => wf_u8 (hwz y (List.mem_of_mem_take hy)), ?_⟩
    · have hb : (zs.take len).length ≤ maxLen := by rw [ht]; omega
      refine ⟨rfl, hb, fun _ => ⟨x, rfl, fun j q hj => ⟨[.int .u8 q], rfl, rfl, fun i u hu => ?_⟩⟩⟩
      match i with
      | 0 =>
        simp only [List.getElem?_cons_zero, Option.some.injEq] at hu
        subst hu
        have hjl := (List.getElem?_eq_some_iff.1 hj).1
        rw [ht] at hjl
        rw [List.getElem?_take_of_lt hjl] at hj
        have h1 := hcell j (by omega)
        rw [List.getD_eq_getElem?_getD, hj] at h1
        show W.cell? (x.add (j * 1 + 0)) = _
        rw [Nat.mul_one, Nat.add_zero]
        simpa using h1
      | i + 1 => simp at hu
    · have e : d = .slice (lits .u8 (zs.take len)) (lits .u8 (zs.drop len)) := by simpa using congrArg Prod.fst hx
      rw [e]
      simp only [Rows.uptoBulk, lits_bulk]
      omega
theorem small_u8 {H : Type} {d : DataW H} {n : Nat} {ds : List (DataW H)} (hD : n ≤ Rows.uptoBulk d) (hk : Rows.uptoSmall H ds = true) (hd : d ∈ ds) : n ≤ 1048576 := by
  have h : Rows.uptoBulkAll ds ≤ 1048576 := of_decide_eq_true hk
  have := part_le hd
  omega
theorem op_bulk8 {H : Type} {d : DataW H} {o : S29} (hD : DatX d o) : o.f4.size + 8 ≤ Rows.uptoBulk d := by
  obtain ⟨rfl, _⟩ := hD
  simp only [Rows.uptoBulk, Rows.uptoBulkAll]
  rw [Lib.size_eq]
  omega
theorem wgt8_range {H : Type} (D : Nat → DataW H) (R : Nat → S29) : ∀ n : Nat, (∀ i, i < n → DatX (D i) (R i)) → Pure.wgt8 ((List.range n).map R) ≤ Rows.uptoBulkAll ((List.range n).map D) := by
  have key : ∀ l : List Nat, (∀ i ∈ l, DatX (D i) (R i)) → Pure.wgt8 (l.map R) ≤ Rows.uptoBulkAll (l.map D) := by
    intro l
    induction l with
    | nil => intro _; simp [Pure.wgt8]
    | cons i t ih =>
      intro h
      have h1 := op_bulk8 (h i (by simp))
      have h2 := ih (fun j hj => h j (by simp [hj]))
      simp only [List.map_cons, Rows.uptoBulkAll]
      have h3 : Pure.wgt8 (R i :: t.map R) = (R i).f4.size + 8 + Pure.wgt8 (t.map R) := rfl
      omega
  intro n h
  exact key _ (fun i hi => h i (List.mem_range.1 hi))
theorem script_wgt8 {H : Type} {a0 a1 a2 a3 a4 a5 : Int} {dl : DataW H} {l : List S29} {ds : List (DataW H)} (hk : Rows.uptoSmall H ds = true)
    (hd : DataW.agg [.agg [.lit (.int .i64 a0), .lit (.int .i64 a1), .lit (.int .i64 a2), .lit (.int .i64 a3), .lit (.int .i64 a4), .lit (.int .i64 a5)], dl] ∈ ds) (hD : DatO dl l) : Pure.wgt8 l ≤ 1048576 := by
  have h : Rows.uptoBulkAll ds ≤ 1048576 := of_decide_eq_true hk
  have h1 := part_le hd
  simp only [Rows.uptoBulk, Rows.uptoBulkAll] at h1
  rcases hD with ⟨rfl, _⟩ | ⟨n, D, R, spare, rfl, rfl, hX⟩
  · simp [Pure.wgt8]
  · have := wgt8_range D R n hX
    simp only [Rows.uptoBulk] at h1
    omega
end Go.Proofs.YtlmdhpfggobogaaDoor.Br
