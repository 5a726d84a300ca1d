import Derived.Test.YtlmdhpfggobogaaDoorQSk16
import Derived.Test.YtlmdhpfggobogaaDoorRows
import Derived.Deep.Slices
import Derived.Deep.Fields
import Derived.ChangeSame
import Derived.SizedLaws
import Derived.WalkKit
import Derived.ProofKit
import Derived.OpenShut
namespace Go.Proofs.YtlmdhpfggobogaaDoor.Br
open Go.ChangeShapes Go.WideShapes Go.Deep Go.RowKit
open Go.Proofs.YtlmdhpfggobogaaDoor.G Go.Proofs.YtlmdhpfggobogaaDoorW.PrintWords Go.Proofs.YtlmdhpfggobogaaDoorW.PrintLast Go.Proofs.YtlmdhpfggobogaaDoorW.PrintMore
set_option linter.unusedVariables false
set_option linter.unusedSimpArgs false
def wfI (n : Int) : Prop := (Lit.int .i64 n).wf = true
theorem inI_of {n : Int} (h : wfI n) : inI n := by
  have := bounds_i64 h
  unfold inI; omega
def cellsOp (o : S29) : List Value := [.int .i64 o.f0, .int .i64 o.f1, .int .i64 o.f2, .int .i64 o.f3, .string o.f4, .int .i64 o.f5, .int .i64 o.f6]
def DatX {H : Type} (d : DataW H) (o : S29) : Prop :=
  d = .agg [.lit (.int .i64 o.f0), .lit (.int .i64 o.f1), .lit (.int .i64 o.f2), .lit (.int .i64 o.f3), .lit (.string o.f4.data.toList), .lit (.int .i64 o.f5), .lit (.int .i64 o.f6)] ∧ wfI o.f0 ∧ wfI o.f1 ∧ wfI o.f2 ∧ wfI o.f3 ∧ wfI o.f5 ∧ wfI o.f6
def DatO {H : Type} (d : DataW H) (l : List S29) : Prop :=
  (l = [] ∧ d = .nil) ∨ ∃ (n : Nat) (D : Nat → DataW H) (R : Nat → S29) (spare : List (DataW H)), d = .slice ((List.range n).map D) spare ∧ l = (List.range n).map R ∧ ∀ i, i < n → DatX (D i) (R i)
section
variable {H : Type} {enc : TypeId × Value → H} {w : World} {base : Nat} {spare : Nat → Bool} {held : Bool}
set_option maxRecDepth 100000 in
theorem open_op {fuel : Nat} {cs : List Value} {y : DataW H × List MemPlace} (h : DataW.trod enc Tryd.prog w base spare held fuel 29 cs = some y) : ∃ o : S29, cs = cellsOp o ∧ DatX y.1 o := by
  obtain ⟨xs, n, _, rfl, hlen, hxl, hf⟩ := DataW.trod_struct Tryd.underlying29 h
  have h7 : Tryd.prog.cellsOf 29 = 7 := by kernel_rfl
  have e3 : Tryd.prog.cellsOf 3 = 1 := by kernel_rfl
  have e9 : Tryd.prog.cellsOf 9 = 1 := by kernel_rfl
  rw [h7] at hlen
  have hxl7 : xs.length = 7 := hxl
  match cs, hlen, xs, hxl7 with
  | [c0, c1, c2, c3, c4, c5, c6], _, [y0, y1, y2, y3, y4, y5, y6], _ =>
    have t0 : DataW.trod enc Tryd.prog w base spare held n 3 (([c0, c1, c2, c3, c4, c5, c6].drop 0).take (Tryd.prog.cellsOf 3)) = some y0 := hf 0 _ rfl
    have t1 : DataW.trod enc Tryd.prog w base spare held n 3 (([c0, c1, c2, c3, c4, c5, c6].drop 1).take (Tryd.prog.cellsOf 3)) = some y1 := hf 1 _ rfl
    have t2 : DataW.trod enc Tryd.prog w base spare held n 3 (([c0, c1, c2, c3, c4, c5, c6].drop 2).take (Tryd.prog.cellsOf 3)) = some y2 := hf 2 _ rfl
    have t3 : DataW.trod enc Tryd.prog w base spare held n 3 (([c0, c1, c2, c3, c4, c5, c6].drop 3).take (Tryd.prog.cellsOf 3)) = some y3 := hf 3 _ rfl
    have t4 : DataW.trod enc Tryd.prog w base spare held n 9 (([c0, c1, c2, c3, c4, c5, c6].drop 4).take (Tryd.prog.cellsOf 9)) = some y4 := hf 4 _ rfl
    have t5 : DataW.trod enc Tryd.prog w base spare held n 3 (([c0, c1, c2, c3, c4, c5, c6].drop 5).take (Tryd.prog.cellsOf 3)) = some y5 := hf 5 _ rfl
    have t6 : DataW.trod enc Tryd.prog w base spare held n 3 (([c0, c1, c2, c3, c4, c5, c6].drop 6).take (Tryd.prog.cellsOf 3)) = some y6 := hf 6 _ rfl
    simp only [e3, e9, List.drop_zero, List.drop_succ_cons, List.take_succ_cons, List.take_zero, List.getElem?_cons_zero, List.getElem?_cons_succ] at t0 t1 t2 t3 t4 t5 t6
    obtain ⟨n0, v0, d0, w0⟩ := DataW.trod_int (k := .i64) (by kernel_rfl) t0
    obtain ⟨n1, v1, d1, w1⟩ := DataW.trod_int (k := .i64) (by kernel_rfl) t1
    obtain ⟨n2, v2, d2, w2⟩ := DataW.trod_int (k := .i64) (by kernel_rfl) t2
    obtain ⟨n3, v3, d3, w3⟩ := DataW.trod_int (k := .i64) (by kernel_rfl) t3
    obtain ⟨s4, v4, d4, _⟩ := DataW.trod_string (by kernel_rfl) t4
    obtain ⟨n5, v5, d5, w5⟩ := DataW.trod_int (k := .i64) (by kernel_rfl) t5
    obtain ⟨n6, v6, d6, w6⟩ := DataW.trod_int (k := .i64) (by kernel_rfl) t6
    simp only [List.cons.injEq, and_true] at v0 v1 v2 v3 v4 v5 v6
    subst v0; subst v1; subst v2; subst v3; subst v4; subst v5; subst v6
    refine ⟨⟨n0, n1, n2, n3, s4, n5, n6⟩, rfl, ?_, w0, w1, w2, w3, w5, w6⟩
    simp only [List.map_cons, List.map_nil]
    rw [d0, d1, d2, d3, d4, d5, d6]
set_option maxRecDepth 100000 in
theorem open_ops {fuel : Nat} {v : Value} {y : DataW H × List MemPlace} (h : DataW.trod enc Tryd.prog w 0 (fun _ => true) true fuel 24 [v] = some y) :
    ∃ (A : Option Addr) (c : Nat) (l : List S29), v = .slice A l.length c ∧ l.length ≤ c ∧ Kd.C k29 w A l.length l ∧ DatO y.1 l := by
  rcases open_slice Tryd.underlying24 h with ⟨hcs, hx⟩ | ⟨x, len, cap, m, n, D, Pl, hcs, _, hl, hm, hmm, hx, hi⟩
  · simp only [List.cons.injEq, and_true] at hcs
    subst hcs
    exact ⟨none, 0, [], rfl, Nat.le_refl _, ⟨rfl, Nat.zero_le _, fun h => absurd h (by simp)⟩, .inl ⟨rfl, by rw [hx]⟩⟩
  · simp only [List.cons.injEq, and_true] at hcs
    subst hcs
    simp only [if_true] at hmm
    subst hmm
    have h7 : Tryd.prog.cellsOf 29 = 7 := by kernel_rfl
    have key : ∀ i : Nat, ∃ r : S29, i < m → (∀ j u, (cellsOp r)[j]? = some u → w.cell? (x.add (i * 7 + j)) = some u) ∧ DatX (D i) r := by
      intro i
      by_cases him : i < m
      · obtain ⟨cs', hc, ht'⟩ := hi i him
        rw [h7] at hc
        obtain ⟨o, ho, hd⟩ := open_op ht'
        obtain ⟨_, hcl, hat⟩ := World.cells?_some hc
        refine ⟨o, fun _ => ⟨fun j u hj => ?_, hd⟩⟩
        have hj7 : j < 7 := by
          have h9 := (List.getElem?_eq_some_iff.1 hj).1
          have h8 : (cellsOp o).length = 7 := rfl
          omega
        have h8 := hat j hj7
        rw [ho, hj] at h8
        rw [← Go.Deep.add_add]
        exact h8
      · exact ⟨z29, fun h => absurd h him⟩
    obtain ⟨R, hR⟩ := Classical.axiomOfChoice key
    have hlen : ((List.range len).map R).length = len := by simp
    refine ⟨some x, m, (List.range len).map R, by rw [hlen], by rw [hlen]; exact hl, ?_, .inr ⟨len, D, R, _, by rw [hx], rfl, fun i hil => (hR i (by omega)).2⟩⟩
    refine ⟨rfl, by rw [hlen]; have : maxLen = 9223372036854775807 := rfl; omega, fun _ => ⟨x, rfl, fun j q hj => ?_⟩⟩
    rw [List.getElem?_map] at hj
    rcases Nat.lt_or_ge j len with h1 | h1
    · rw [List.getElem?_range h1] at hj
      simp only [Option.map_some, Option.some.injEq] at hj
      subst hj
      exact ⟨_, rfl, k29_mk w (R j), (hR j (by omega)).1⟩
    · rw [List.getElem?_eq_none (by simp; omega)] at hj
      simp at hj
set_option maxRecDepth 100000 in
theorem open_script {r : Reach} {b0 : Nat} {v : Value} {d : DataW H} {p : List MemPlace} (hv : Value.okWide Tryd.prog w r b0 26 v) (h : DataW.Trod enc Tryd.prog w 0 (fun _ => true) true 26 v d p) :
    ∃ (a0 a1 a2 a3 a4 a5 : Int) (A : Option Addr) (c : Nat) (l : List S29) (dl : DataW H), v = .agg #[.int .i64 a0, .int .i64 a1, .int .i64 a2, .int .i64 a3, .int .i64 a4, .int .i64 a5, .slice A l.length c] ∧ l.length ≤ c ∧ Kd.C k29 w A l.length l ∧ DatO dl l ∧
      d = .agg [.agg [.lit (.int .i64 a0), .lit (.int .i64 a1), .lit (.int .i64 a2), .lit (.int .i64 a3), .lit (.int .i64 a4), .lit (.int .i64 a5)], dl] ∧ wfI a0 ∧ wfI a1 ∧ wfI a2 ∧ wfI a3 ∧ wfI a4 ∧ wfI a5 := by
  obtain ⟨cs, rfl, hsz⟩ := okWide_struct Tryd.underlying26 hv
  obtain ⟨fuel, hf⟩ := h
  obtain ⟨l⟩ := cs
  have hf0 : DataW.trod enc Tryd.prog w 0 (fun _ => true) true fuel 26 l = some (d, p) := hf
  obtain ⟨xs, n, _, hx, hlen, hxl, hfs⟩ := DataW.trod_struct Tryd.underlying26 hf0
  have h7 : Tryd.prog.cellsOf 26 = 7 := by kernel_rfl
  have e23 : Tryd.prog.cellsOf 23 = 6 := by kernel_rfl
  have e24 : Tryd.prog.cellsOf 24 = 1 := by kernel_rfl
  have e3 : Tryd.prog.cellsOf 3 = 1 := by kernel_rfl
  rw [h7] at hlen
  have hxl2 : xs.length = 2 := hxl
  match l, hlen, xs, hxl2 with
  | [c0, c1, c2, c3, c4, c5, c6], _, [y0, y1], _ =>
    have t0 : DataW.trod enc Tryd.prog w 0 (fun _ => true) true n 23 (([c0, c1, c2, c3, c4, c5, c6].drop 0).take (Tryd.prog.cellsOf 23)) = some y0 := hfs 0 _ rfl
    have t1 : DataW.trod enc Tryd.prog w 0 (fun _ => true) true n 24 (([c0, c1, c2, c3, c4, c5, c6].drop 6).take (Tryd.prog.cellsOf 24)) = some y1 := hfs 1 _ rfl
    simp only [e23, e24, List.drop_zero, List.drop_succ_cons, List.take_succ_cons, List.take_zero, List.getElem?_cons_zero, List.getElem?_cons_succ] at t0 t1
    obtain ⟨zs, n', _, hz, hzl, hzl2, hzs⟩ := DataW.trod_struct Tryd.underlying23 t0
    have hzl6 : zs.length = 6 := hzl2
    match zs, hzl6 with
    | [z0, z1, z2, z3, z4, z5], _ =>
      have u0 : DataW.trod enc Tryd.prog w 0 (fun _ => true) true n' 3 (([c0, c1, c2, c3, c4, c5].drop 0).take (Tryd.prog.cellsOf 3)) = some z0 := hzs 0 _ rfl
      have u1 : DataW.trod enc Tryd.prog w 0 (fun _ => true) true n' 3 (([c0, c1, c2, c3, c4, c5].drop 1).take (Tryd.prog.cellsOf 3)) = some z1 := hzs 1 _ rfl
      have u2 : DataW.trod enc Tryd.prog w 0 (fun _ => true) true n' 3 (([c0, c1, c2, c3, c4, c5].drop 2).take (Tryd.prog.cellsOf 3)) = some z2 := hzs 2 _ rfl
      have u3 : DataW.trod enc Tryd.prog w 0 (fun _ => true) true n' 3 (([c0, c1, c2, c3, c4, c5].drop 3).take (Tryd.prog.cellsOf 3)) = some z3 := hzs 3 _ rfl
      have u4 : DataW.trod enc Tryd.prog w 0 (fun _ => true) true n' 3 (([c0, c1, c2, c3, c4, c5].drop 4).take (Tryd.prog.cellsOf 3)) = some z4 := hzs 4 _ rfl
      have u5 : DataW.trod enc Tryd.prog w 0 (fun _ => true) true n' 3 (([c0, c1, c2, c3, c4, c5].drop 5).take (Tryd.prog.cellsOf 3)) = some z5 := hzs 5 _ rfl
      simp only [e3, List.drop_zero, List.drop_succ_cons, List.take_succ_cons, List.take_zero, List.getElem?_cons_zero, List.getElem?_cons_succ] at u0 u1 u2 u3 u4 u5
      obtain ⟨n0, v0, d0, w0⟩ := DataW.trod_int (k := .i64) (by kernel_rfl) u0
      obtain ⟨n1, v1, d1, w1⟩ := DataW.trod_int (k := .i64) (by kernel_rfl) u1
      obtain ⟨n2, v2, d2, w2⟩ := DataW.trod_int (k := .i64) (by kernel_rfl) u2
      obtain ⟨n3, v3, d3, w3⟩ := DataW.trod_int (k := .i64) (by kernel_rfl) u3
      obtain ⟨n4, v4, d4, w4⟩ := DataW.trod_int (k := .i64) (by kernel_rfl) u4
      obtain ⟨n5, v5, d5, w5⟩ := DataW.trod_int (k := .i64) (by kernel_rfl) u5
      simp only [List.cons.injEq, and_true] at v0 v1 v2 v3 v4 v5
      subst v0; subst v1; subst v2; subst v3; subst v4; subst v5
      obtain ⟨A, c, ops, hvo, hlo, hC, hD⟩ := open_ops t1
      subst hvo
      refine ⟨n0, n1, n2, n3, n4, n5, A, c, ops, y1.1, rfl, hlo, hC, hD, ?_, w0, w1, w2, w3, w4, w5⟩
      simp only [Prod.mk.injEq] at hx
      rw [hx.1]
      simp only [List.map_cons, List.map_nil]
      rw [hz]
      simp only [List.map_cons, List.map_nil]
      rw [d0, d1, d2, d3, d4, d5]
end
theorem part_le {H : Type} {d : DataW H} {l : List (DataW H)} (h : d ∈ l) : Rows.uptoBulk d ≤ Rows.uptoBulkAll l := by
  induction l with
  | nil => cases h
  | cons x r ih =>
    simp only [Rows.uptoBulkAll]
    cases List.mem_cons.1 h with
    | inl e => subst e; omega
    | inr e => have := ih e; omega
theorem bulk_pos {H : Type} (d : DataW H) : 1 ≤ Rows.uptoBulk d := by
  cases d with
  | lit l => cases l <;> simp [Rows.uptoBulk]
  | nil => simp [Rows.uptoBulk]
  | ptr d => simp [Rows.uptoBulk]
  | slice elems spare => simp [Rows.uptoBulk]
  | agg parts => simp [Rows.uptoBulk]
  | iface t d => simp [Rows.uptoBulk]
  | map entries => simp [Rows.uptoBulk]
  | held h => simp [Rows.uptoBulk]
theorem bulk_len {H : Type} : ∀ l : List (DataW H), l.length ≤ Rows.uptoBulkAll l
  | [] => by simp
  | d :: r => by
    have := bulk_pos d
    have := bulk_len r
    simp only [Rows.uptoBulkAll, List.length_cons]
    omega
theorem op_small {H : Type} {d : DataW H} {o : S29} (hD : DatX d o) (h : Rows.uptoBulk d ≤ 1048576) : okS o := by
  obtain ⟨rfl, w0, w1, w2, w3, w5, w6⟩ := hD
  refine ⟨inI_of w0, inI_of w1, inI_of w2, inI_of w3, ?_, inI_of w5, inI_of w6⟩
  simp only [Rows.uptoBulk, Rows.uptoBulkAll] at h
  rw [Lib.size_eq]
  omega
theorem ops_small {H : Type} {d : DataW H} {l : List S29} (hD : DatO d l) (h : Rows.uptoBulk d ≤ 1048576) : l.length ≤ 1048576 ∧ ∀ o ∈ l, okS o := by
  rcases hD with ⟨rfl, _⟩ | ⟨n, D, R, spare, rfl, rfl, hX⟩
  · exact ⟨by simp, by simp⟩
  · simp only [Rows.uptoBulk] at h
    have hb := bulk_len ((List.range n).map D)
    simp only [List.length_map, List.length_range] at hb ⊢
    refine ⟨by omega, fun o ho => ?_⟩
    obtain ⟨i, hi, rfl⟩ := List.mem_map.1 ho
    refine op_small (hX i (List.mem_range.1 hi)) ?_
    have h2 : Rows.uptoBulk (D i) ≤ Rows.uptoBulkAll ((List.range n).map D) := part_le (List.mem_map.2 ⟨i, hi, rfl⟩)
    omega
theorem script_small {H : Type} {a0 a1 a2 a3 a4 a5 : Int} {dl : DataW H} {l : List S29} {ds : List (DataW H)} (hk : Rows.uptoSmall H ds = true)
    (hd : DataW.agg [.agg [.lit (.int .i64 a0), .lit (.int .i64 a1), .lit (.int .i64 a2), .lit (.int .i64 a3), .lit (.int .i64 a4), .lit (.int .i64 a5)], dl] ∈ ds) (hD : DatO dl l) (w0 : wfI a0) (w1 : wfI a1) (w2 : wfI a2) (w3 : wfI a3) (w4 : wfI a4) (w5 : wfI a5) :
    okP a0 a1 a2 a3 a4 a5 l := by
  have h : Rows.uptoBulkAll ds ≤ 1048576 := of_decide_eq_true hk
  have h1 := part_le hd
  simp only [Rows.uptoBulk, Rows.uptoBulkAll] at h1
  obtain ⟨h2, h3⟩ := ops_small hD (by omega)
  refine ⟨?_, h2, h3⟩
  intro n hn
  simp only [headNums, List.mem_cons, List.not_mem_nil, or_false] at hn
  rcases hn with rfl | rfl | rfl | rfl | rfl | rfl <;> exact inI_of (by assumption)
end Go.Proofs.YtlmdhpfggobogaaDoor.Br
