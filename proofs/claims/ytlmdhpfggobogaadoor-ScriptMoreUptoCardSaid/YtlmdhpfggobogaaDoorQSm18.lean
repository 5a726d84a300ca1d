import Derived.Test.YtlmdhpfggobogaaDoorQSm16
import Derived.Test.YtlmdhpfggobogaaDoorRows
import Derived.Deep.Slices
import Derived.Deep.Fields
import Derived.ChangeSame
import Derived.SizedLaws
import Derived.WalkKit
import Derived.ProofKit
import Derived.OpenShut
namespace Go.Proofs.YtlmdhpfggobogaaDoor.Br
open Go.ChangeShapes Go.WideShapes Go.Deep Go.RowKit
open Go.Proofs.YtlmdhpfggobogaaDoor.G Go.Proofs.YtlmdhpfggobogaaDoorW.PrintWords Go.Proofs.YtlmdhpfggobogaaDoorW.PrintLast Go.Proofs.YtlmdhpfggobogaaDoorW.PrintMore
set_option linter.unusedVariables false
set_option linter.unusedSimpArgs false
def wfI (n : Int) : Prop := (Lit.int .i64 n).wf = true
theorem inI_of {n : Int} (h : wfI n) : inI n := by
  have := bounds_i64 h
  unfold inI; omega
def cellsOp (o : S29) : List Value := [.int .i64 o.f0, .int .i64 o.f1, .int .i64 o.f2, .int .i64 o.f3, .string o.f4, .int .i64 o.f5, .int .i64 o.f6]
def DatX {H : Type} (d : DataW H) (o : S29) : Prop :=
  d = .agg [.lit (.int .i64 o.f0), .lit (.int .i64 o.f1), .lit (.int .i64 o.f2), .lit (.int .i64 o.f3), .lit (.string o.f4.data.toList), .lit (.int .i64 o.f5), .lit (.int .i64 o.f6)] ∧ wfI o.f0 ∧ wfI o.f1 ∧ wfI o.f2 ∧ wfI o.f3 ∧ wfI o.f5 ∧ wfI o.f6
section
variable {H : Type} {enc : TypeId × Value → H} {w : World} {base : Nat} {spare : Nat → Bool} {held : Bool}
set_option maxRecDepth 100000 in
theorem open_op {fuel : Nat} {cs : List Value} {y : DataW H × List MemPlace} (h : DataW.trod enc Tryd.prog w base spare held fuel 29 cs = some y) : ∃ o : S29, cs = cellsOp o ∧ DatX y.1 o := by
  obtain ⟨xs, n, _, rfl, hlen, hxl, hf⟩ := DataW.trod_struct Tryd.underlying29 h
  have h7 : Tryd.prog.cellsOf 29 = 7 := by kernel_rfl
  have e3 : Tryd.prog.cellsOf 3 = 1 := by kernel_rfl
  have e9 : Tryd.prog.cellsOf 9 = 1 := by kernel_rfl
  rw [h7] at hlen
  have hxl7 : xs.length = 7 := hxl
  match cs, hlen, xs, hxl7 with
  | [c0, c1, c2, c3, c4, c5, c6], _, [y0, y1, y2, y3, y4, y5, y6], _ =>
    have t0 : DataW.trod enc Tryd.prog w base spare held n 3 (([c0, c1, c2, c3, c4, c5, c6].drop 0).take (Tryd.prog.cellsOf 3)) = some y0 := hf 0 _ rfl
    have t1 : DataW.trod enc Tryd.prog w base spare held n 3 (([c0, c1, c2, c3, c4, c5, c6].drop 1).take (Tryd.prog.cellsOf 3)) = some y1 := hf 1 _ rfl
    have t2 : DataW.trod enc Tryd.prog w base spare held n 3 (([c0, c1, c2, c3, c4, c5, c6].drop 2).take (Tryd.prog.cellsOf 3)) = some y2 := hf 2 _ rfl
    have t3 : DataW.trod enc Tryd.prog w base spare held n 3 (([c0, c1, c2, c3, c4, c5, c6].drop 3).take (Tryd.prog.cellsOf 3)) = some y3 := hf 3 _ rfl
    have t4 : DataW.trod enc Tryd.prog w base spare held n 9 (([c0, c1, c2, c3, c4, c5, c6].drop 4).take (Tryd.prog.cellsOf 9)) = some y4 := hf 4 _ rfl
    have t5 : DataW.trod enc Tryd.prog w base spare held n 3 (([c0, c1, c2, c3, c4, c5, c6].drop 5).take (Tryd.prog.cellsOf 3)) = some y5 := hf 5 _ rfl
    have t6 : DataW.trod enc Tryd.prog w base spare held n 3 (([c0, c1, c2, c3, c4, c5, c6].drop 6).take (Tryd.prog.cellsOf 3)) = some y6 := hf 6 _ rfl
    simp only [e3, e9, List.drop_zero, List.drop_succ_cons, List.take_succ_cons, List.take_zero, List.getElem?_cons_zero, List.getElem?_cons_succ] at t0 t1 t2 t3 t4 t5 t6
    obtain ⟨n0, v0, d0, w0⟩ := DataW.trod_int (k := .i64) (by kernel_rfl) t0
    obtain ⟨n1, v1, d1, w1⟩ := DataW.trod_int (k := .i64) (by kernel_rfl) t1
    obtain ⟨n2, v2, d2, w2⟩ := DataW.trod_int (k := .i64) (by kernel_rfl) t2
    obtain ⟨n3, v3, d3, w3⟩ := DataW.trod_int (k := .i64) (by kernel_rfl) t3
    obtain ⟨s4, v4, d4, _⟩ := DataW.trod_string (by kernel_rfl) t4
    obtain ⟨n5, v5, d5, w5⟩ := DataW.trod_int (k := .i64) (by kernel_rfl) t5
    obtain ⟨n6, v6, d6, w6⟩ := DataW.trod_int (k := .i64) (by kernel_rfl) t6
    simp only [List.cons.injEq, and_true] at v0 v1 v2 v3 v4 v5 v6
    subst v0; subst v1; subst v2; subst v3; subst v4; subst v5; subst v6
    refine ⟨⟨n0, n1, n2, n3, s4, n5, n6⟩, rfl, ?_, w0, w1, w2, w3, w5, w6⟩
    simp only [List.map_cons, List.map_nil]
    rw [d0, d1, d2, d3, d4, d5, d6]
set_option maxRecDepth 100000 in
theorem open_opv {r : Reach} {b0 : Nat} {v : Value} {d : DataW H} {p : List MemPlace} (hv : Value.okWide Tryd.prog w r b0 29 v) (h : DataW.Trod enc Tryd.prog w base spare held 29 v d p) :
    ∃ o : S29, v = .agg #[.int .i64 o.f0, .int .i64 o.f1, .int .i64 o.f2, .int .i64 o.f3, .string o.f4, .int .i64 o.f5, .int .i64 o.f6] ∧ DatX d o := by
  obtain ⟨cs, rfl, hsz⟩ := okWide_struct Tryd.underlying29 hv
  obtain ⟨fuel, hf⟩ := h
  obtain ⟨o, ho, hd⟩ := open_op hf
  refine ⟨o, ?_, hd⟩
  congr 1
  obtain ⟨l⟩ := cs
  have e : l = cellsOp o := ho
  rw [e]; rfl
end
theorem part_le {H : Type} {d : DataW H} {l : List (DataW H)} (h : d ∈ l) : Rows.uptoBulk d ≤ Rows.uptoBulkAll l := by
  induction l with
  | nil => cases h
  | cons x r ih =>
    simp only [Rows.uptoBulkAll]
    cases List.mem_cons.1 h with
    | inl e => subst e; omega
    | inr e => have := ih e; omega
theorem small_str {H : Type} {s : ByteArray} {ds : List (DataW H)} (hk : Rows.uptoSmall H ds = true) (hd : DataW.lit (.string s.data.toList) ∈ ds) : s.size ≤ 1048576 := by
  have h : Rows.uptoBulkAll ds ≤ 1048576 := of_decide_eq_true hk
  have h1 := part_le hd
  simp only [Rows.uptoBulk] at h1
  rw [Lib.size_eq]
  omega
theorem op_small {H : Type} {d : DataW H} {o : S29} (hD : DatX d o) (h : Rows.uptoBulk d ≤ 1048576) : okS o := by
  obtain ⟨rfl, w0, w1, w2, w3, w5, w6⟩ := hD
  refine ⟨inI_of w0, inI_of w1, inI_of w2, inI_of w3, ?_, inI_of w5, inI_of w6⟩
  simp only [Rows.uptoBulk, Rows.uptoBulkAll] at h
  rw [Lib.size_eq]
  omega
theorem opv_small {H : Type} {d : DataW H} {o : S29} {ds : List (DataW H)} (hk : Rows.uptoSmall H ds = true) (hd : d ∈ ds) (hD : DatX d o) : okS o := by
  have h : Rows.uptoBulkAll ds ≤ 1048576 := of_decide_eq_true hk
  have h1 := part_le hd
  exact op_small hD (by omega)
end Go.Proofs.YtlmdhpfggobogaaDoor.Br
