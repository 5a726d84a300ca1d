import Derived.Test.YtmicghhmbojkfaaGreatDoorQAl6
import Derived.Test.YtmicghhmbojkfaaGreatDoorRows
import Derived.Test.YtmicghhmbojkfaaGreatDoorQAl31
import Derived.Deep.Slices
import Derived.Deep.Fields
import Derived.ChangeSame
import Derived.SizedLaws
import Derived.WalkKit
import Derived.ProofKit
import Derived.OpenShut
/- From a row's reading to a list of steps: what the printed walks want of a slice of steps that came in. -/
namespace Go.Proofs.YtmicghhmbojkfaaGreatDoor.Br
open Go.ChangeShapes Go.WideShapes Go.Deep Go.RowKit
open Go.Proofs.YtmicghhmbojkfaaGreatDoor.G Go.Proofs.YtmicghhmbojkfaaGreatDoorW.PrintWords Go.Proofs.YtmicghhmbojkfaaGreatDoorW.PrintLast Go.Proofs.YtmicghhmbojkfaaGreatDoorW.PrintMore
open Go.Proofs.YtmicghhmbojkfaaGreatDoor.Fr (OpOk)
set_option linter.unusedVariables false
section
variable {H : Type} {enc : TypeId × Value → H} {P : Program} {w : World} {base : Nat} {spare : Nat → Bool} {held : Bool}
theorem open_slice_fields {t e : TypeId} {fs : Array Field} {fuel : Nat} {cs : List Value} {x : DataW H × List MemPlace} (ht : P.underlying t = some (.slice e)) (he : P.underlying e = some (.struct fs))
    (hone : oneCellFields P fs = true) (hC : P.cellsOf e = fs.size) (h : DataW.trod enc P w base spare held fuel t cs = some x) :
    (cs = [.slice none 0 0] ∧ x = (.nil, [])) ∨
    ∃ (a : Addr) (len cap m : Nat) (D : Nat → DataW H) (Pl : Nat → List MemPlace), cs = [.slice (some a) len cap] ∧ base ≤ a.block ∧ len ≤ cap ∧ cap ≤ maxLen ∧ m = (if spare a.block then cap else len) ∧
      x = (.slice ((List.range len).map D) ((List.range (m - len)).map fun j => D (len + j)), MemPlace.row a (m * fs.size) ++ (List.range m).flatMap Pl) ∧
      ∀ i, i < m → ∃ (ys : List (DataW H × List MemPlace)) (n : Nat), D i = .agg (ys.map (·.1)) ∧ Pl i = ys.flatMap (·.2) ∧ ys.length = fs.size ∧
        ∀ (j : Nat) (f : Field), fs[j]? = some f → ∃ (v : Value) (y : DataW H × List MemPlace), w.cell? (a.add (i * fs.size + j)) = some v ∧ ys[j]? = some y ∧ DataW.trod enc P w base spare held n f.type [v] = some y := by
  rcases open_slice ht h with h0 | ⟨a, len, cap, m, n, D, Pl, hcs, hb, hl, hm, hmm, hx, hi⟩
  · exact .inl h0
  · refine .inr ⟨a, len, cap, m, D, Pl, hcs, hb, hl, hm, hmm, by rw [hC] at hx; exact hx, fun i him => ?_⟩
    obtain ⟨cs', hc, ht'⟩ := hi i him
    rw [hC] at hc
    obtain ⟨ys, n', hn', hy, hlen, hyl, hf⟩ := DataW.trod_struct he ht'
    obtain ⟨_, hcl, hat⟩ := World.cells?_some hc
    simp only [Prod.mk.injEq] at hy
    refine ⟨ys, n', hy.1, hy.2, hyl, fun j f hj => ?_⟩
    obtain ⟨ho, hk⟩ := hone_of hone j f hj
    have hjl : j < fs.size := (Array.getElem?_eq_some_iff.1 hj).1
    have hcell := hat j hjl
    have hv : cs'[j]? = some (cs'[j]'(by omega)) := List.getElem?_eq_getElem (by omega)
    have h1 := hf j f hj
    rw [ho, hk] at h1
    have hone' : (cs'.drop j).take 1 = [cs'[j]'(by omega)] := by
      rw [List.drop_eq_getElem_cons (by omega)]
      rfl
    rw [hone'] at h1
    have hys : ys[j]? = some (ys[j]'(by omega)) := List.getElem?_eq_getElem (by omega)
    refine ⟨_, _, ?_, hys, h1.trans hys⟩
    rw [← Go.Deep.add_add, hcell, hv]
end
/-- What a reading's datum holds of a list of numbers. -/
def DatI {H : Type} (d : DataW H) (l : List Int) : Prop := (l = [] ∧ d = .nil) ∨ ∃ elems spare, d = .slice elems spare ∧ elems.length = l.length
/-- What a reading's datum holds of a step. -/
def DatX {H : Type} (d : DataW H) (x : S35) : Prop :=
  ∃ dL, d = .agg [.lit (.int .i64 x.f0), .lit (.string x.f1.data.toList), .lit (.string x.f2.data.toList), .lit (.int .i64 x.f3), dL] ∧ DatI dL x.f4 ∧ (Lit.int .i64 x.f3).wf = true ∧ ∀ c ∈ x.f4, (Lit.int .i64 c).wf = true
def DatO {H : Type} (d : DataW H) (l : List S35) : Prop :=
  (l = [] ∧ d = .nil) ∨ ∃ (n : Nat) (D : Nat → DataW H) (R : Nat → S35) (spare : List (DataW H)), d = .slice ((List.range n).map D) spare ∧ l = (List.range n).map R ∧ ∀ i, i < n → DatX (D i) (R i)
theorem open_nums {H : Type} {enc : TypeId × Value → H} {W : World} {fuel : Nat} {v : Value} {y : DataW H × List MemPlace} (h : DataW.trod enc Tryz.prog W 0 (fun _ => true) true fuel 28 [v] = some y) :
    ∃ (A : Option Addr) (c : Nat) (l : List Int), v = .slice A l.length c ∧ l.length ≤ c ∧ Kd.C (Kd.int .i64) W A l.length l ∧ DatI y.1 l ∧ ∀ n ∈ l, (Lit.int .i64 n).wf = true := by
  rcases open_ints Tryz.underlying28 Tryz.underlying3 (by kernel_rfl) h with ⟨hcs, hx⟩ | ⟨x, l, c, zs, hcs, _, hl, hm, hz, hx, hcell, hwz⟩
  · simp only [List.cons.injEq, and_true] at hcs
    subst hcs
    exact ⟨none, 0, [], rfl, Nat.le_refl _, ⟨rfl, Nat.zero_le _, fun h => absurd h (by simp)⟩, .inl ⟨rfl, by rw [hx]⟩, by simp⟩
  · simp only [List.cons.injEq, and_true] at hcs
    subst hcs
    have hz' : zs.length = c := by simpa using hz
    obtain ⟨l1, rfl, hr1, hm1, hw1, hc1⟩ := ReadsInt.ofRowC (a := some x) (len := l) (cap := c) (zs := zs) (w := W) (.inr ⟨x, rfl, hl, hm, hz', hcell, hwz⟩)
    refine ⟨some x, c, l1, rfl, hc1, Kd.C_of_reads (d := (0 : Int)) (h1 := fun _ => rfl) hr1, .inr ⟨_, _, by rw [hx], ?_⟩, hw1⟩
    simp [lits]
    omega
theorem open_ops {H : Type} {enc : TypeId × Value → H} {W : World} {d : DataW H} {p : List MemPlace} {a : Option Addr} {len cap : Nat} {t : TypeId} (ht : Tryz.prog.underlying t = some (.slice 35))
    (h : DataW.Trod enc Tryz.prog W 0 (fun _ => true) true t (.slice a len cap) d p) :
    ∃ l : List S35, l.length = len ∧ l.length ≤ cap ∧ l.length ≤ maxLen ∧ Kd.C k35 W a l.length l ∧ DatO d l := by
  obtain ⟨fuel, hf⟩ := h
  rcases open_slice_fields ht Tryz.underlying35 (by kernel_rfl) (by kernel_rfl) hf with ⟨hcs, hx⟩ | ⟨x, l, c, m, D, Pl, hcs, _, hl, hm, hmm, hx, hi⟩
  · simp only [Value.cells, List.cons.injEq, Value.slice.injEq, and_true] at hcs
    obtain ⟨rfl, rfl, rfl⟩ := hcs
    simp only [Prod.mk.injEq] at hx
    exact ⟨[], rfl, Nat.le_refl _, Nat.zero_le _, ⟨rfl, Nat.zero_le _, fun h => absurd h (by simp)⟩, .inl ⟨rfl, hx.1⟩⟩
  · simp only [Value.cells, List.cons.injEq, Value.slice.injEq, and_true] at hcs
    obtain ⟨rfl, rfl, rfl⟩ := hcs
    simp only [if_true] at hmm
    subst hmm
    have key2 : ∀ i : Nat, ∃ r : S35, i < m → (∃ A4 c4, W.cell? (x.add (i * 5)) = some (.int .i64 r.f0) ∧ W.cell? (x.add (i * 5 + 1)) = some (.string r.f1) ∧ W.cell? (x.add (i * 5 + 2)) = some (.string r.f2) ∧ W.cell? (x.add (i * 5 + 3)) = some (.int .i64 r.f3) ∧
        W.cell? (x.add (i * 5 + 4)) = some (.slice A4 r.f4.length c4) ∧ r.f4.length ≤ c4 ∧ Kd.C (Kd.int .i64) W A4 r.f4.length r.f4) ∧ DatX (D i) r := by
      intro i
      by_cases him : i < m
      · obtain ⟨ys, n, hD, _, hys, hfl⟩ := hi i him
        obtain ⟨v0, y0, hc0, hy0, ht0⟩ := hfl 0 _ rfl
        obtain ⟨v1, y1, hc1, hy1, ht1⟩ := hfl 1 _ rfl
        obtain ⟨v2, y2, hc2, hy2, ht2⟩ := hfl 2 _ rfl
        obtain ⟨v3, y3, hc3, hy3, ht3⟩ := hfl 3 _ rfl
        obtain ⟨v4, y4, hc4, hy4, ht4⟩ := hfl 4 _ rfl
        obtain ⟨n0, hv0, e0, _⟩ := DataW.trod_int (k := .i64) (by kernel_rfl) ht0
        obtain ⟨s1, hv1, e1, _⟩ := DataW.trod_string (by kernel_rfl) ht1
        obtain ⟨s2, hv2, e2, _⟩ := DataW.trod_string (by kernel_rfl) ht2
        obtain ⟨n3, hv3, e3, w3⟩ := DataW.trod_int (k := .i64) (by kernel_rfl) ht3
        obtain ⟨A4, c4, l4, hv4, hl4, hC4, hD4, hw4⟩ := open_nums ht4
        simp only [List.cons.injEq, and_true] at hv0 hv1 hv2 hv3
        subst hv0; subst hv1; subst hv2; subst hv3; subst hv4
        refine ⟨⟨n0, s1, s2, n3, l4⟩, fun _ => ⟨⟨A4, c4, hc0, hc1, hc2, hc3, hc4, hl4, hC4⟩, y4.1, ?_, hD4, w3, hw4⟩⟩
        rw [hD]
        have hlen : ys.length = 5 := hys
        match ys, hlen, hy0, hy1, hy2, hy3, hy4 with
        | [z0, z1, z2, z3, z4], _, hy0, hy1, hy2, hy3, hy4 =>
          simp only [List.getElem?_cons_zero, List.getElem?_cons_succ, Option.some.injEq] at hy0 hy1 hy2 hy3 hy4
          subst hy0; subst hy1; subst hy2; subst hy3; subst hy4
          rw [e0, e1, e2, e3]
          rfl
      · exact ⟨z35, fun h => absurd h him⟩
    obtain ⟨R, hR⟩ := Classical.axiomOfChoice key2
    have hlen : ((List.range len).map R).length = len := by simp
    simp only [Prod.mk.injEq] at hx
    refine ⟨(List.range len).map R, hlen, by rw [hlen]; exact hl, by rw [hlen]; omega, ?_, .inr ⟨len, D, R, _, hx.1, rfl, fun i hil => (hR i (by omega)).2⟩⟩
    refine ⟨rfl, by rw [hlen]; have : maxLen = 9223372036854775807 := rfl; omega, fun _ => ⟨x, rfl, fun j q hj => ?_⟩⟩
    rw [List.getElem?_map] at hj
    rcases Nat.lt_or_ge j len with h1 | h1
    · rw [List.getElem?_range h1] at hj
      simp only [Option.map_some, Option.some.injEq] at hj
      subst hj
      obtain ⟨⟨A4, c4, hc0, hc1, hc2, hc3, hc4, hl4, hC4⟩, _⟩ := hR j (by omega)
      refine ⟨_, rfl, k35_mk W (R j) hl4 hC4, fun i u hu => ?_⟩
      match i with
      | 0 => simp only [List.getElem?_cons_zero, Option.some.injEq] at hu; subst hu; exact hc0
      | 1 => simp only [List.getElem?_cons_succ, List.getElem?_cons_zero, Option.some.injEq] at hu; subst hu; exact hc1
      | 2 => simp only [List.getElem?_cons_succ, List.getElem?_cons_zero, Option.some.injEq] at hu; subst hu; exact hc2
      | 3 => simp only [List.getElem?_cons_succ, List.getElem?_cons_zero, Option.some.injEq] at hu; subst hu; exact hc3
      | 4 => simp only [List.getElem?_cons_succ, List.getElem?_cons_zero, Option.some.injEq] at hu; subst hu; exact hc4
      | n + 5 => simp at hu
    · rw [List.getElem?_eq_none (by simp; omega)] at hj
      simp at hj
theorem all_weight {H : Type} {P : Program} {e : TypeId} {elems : List (DataW H)} {d : DataW H} {v : Nat} (hd : d ∈ elems) (hv : v ∈ DataW.weights P e d) : v ∈ DataW.weightsAll P e elems := by
  induction elems with
  | nil => cases hd
  | cons x t ih =>
    unfold DataW.weightsAll
    rcases List.mem_cons.1 hd with h | h
    · subst h; exact List.mem_append_left _ hv
    · exact List.mem_append_right _ (ih h)
theorem ops_ok {H : Type} {d : DataW H} {l : List S35} {ts : List TypeId} {ds : List (DataW H)} {t : TypeId} (ht : Tryz.prog.underlying t = some (.slice 35)) (hD : DatO d l) (hsz : (DataW.weightsEach Tryz.prog ts ds).all (· ≤ reachBytes) = true)
    {j : Nat} (hj : ts[j]? = some t) (hd : ds[j]? = some d) : ∀ x ∈ l, OpOk x := by
  rcases hD with ⟨rfl, _⟩ | ⟨n, D, R, spare, rfl, rfl, hX⟩
  · simp
  · intro x hx
    obtain ⟨i, hi, rfl⟩ := List.mem_map.1 hx
    have hin : i < n := List.mem_range.1 hi
    obtain ⟨dL, hDi, hI, w3, w4⟩ := hX i hin
    have up : ∀ v, v ∈ DataW.weights Tryz.prog 35 (D i) → v ≤ 140737488351232 := by
      intro v hv
      have z := List.all_eq_true.1 hsz v (DataW.weights_mem_each hj hd v (by
        simp only [DataW.weights, ht]
        exact List.mem_cons_of_mem _ (List.mem_append_left _ (all_weight (List.mem_map.2 ⟨i, hi, rfl⟩) hv))))
      exact of_decide_eq_true z
    rw [hDi] at up
    have b3 := bounds_i64 w3
    refine ⟨?_, ?_, by omega, fun c hc => by have := bounds_i64 (w4 c hc); omega, ?_⟩
    · have := up (R i).f1.data.toList.length (by simp [DataW.weights, DataW.weightsEach, Tryz.underlying35])
      rw [Array.length_toList] at this
      exact this
    · have := up (R i).f2.data.toList.length (by simp [DataW.weights, DataW.weightsEach, Tryz.underlying35])
      rw [Array.length_toList] at this
      exact this
    · rcases hI with ⟨h0, _⟩ | ⟨elems, sp, rfl, hlen⟩
      · rw [h0]; simp
      · have := up ((elems.length + sp.length) * Tryz.prog.bytesOf 3) (by simp [DataW.weights, DataW.weightsEach, Tryz.underlying35, Tryz.underlying28])
        have hb : Tryz.prog.bytesOf 3 = 8 := by kernel_rfl
        rw [hb] at this
        omega
theorem ops_len {H : Type} {d : DataW H} {l : List S35} {ts : List TypeId} {ds : List (DataW H)} {t : TypeId} (ht : Tryz.prog.underlying t = some (.slice 35)) (hD : DatO d l) (hsz : (DataW.weightsEach Tryz.prog ts ds).all (· ≤ reachBytes) = true)
    {j : Nat} (hj : ts[j]? = some t) (hd : ds[j]? = some d) : l.length ≤ 140737488351232 := by
  rcases hD with ⟨rfl, _⟩ | ⟨n, D, R, spare, rfl, rfl, hX⟩
  · simp
  · have z := sized_slice hsz hj hd ht
    have hb : Tryz.prog.bytesOf 35 = 72 := by kernel_rfl
    have hr : reachBytes = 140737488351232 := by kernel_rfl
    rw [hb, hr] at z
    simp only [List.length_map, List.length_range] at z ⊢
    omega
theorem part_le {H : Type} {d : DataW H} {l : List (DataW H)} (h : d ∈ l) : Rows.uptoBulk d ≤ Rows.uptoBulkAll l := by
  induction l with
  | nil => cases h
  | cons x r ih =>
    simp only [Rows.uptoBulkAll]
    cases List.mem_cons.1 h with
    | inl e => subst e; omega
    | inr e => have := ih e; omega
theorem bulk_pos {H : Type} (d : DataW H) : 1 ≤ Rows.uptoBulk d := by
  cases d with
  | lit l => cases l <;> simp [Rows.uptoBulk]
  | nil => simp [Rows.uptoBulk]
  | ptr d => simp [Rows.uptoBulk]
  | slice elems spare => simp [Rows.uptoBulk]
  | agg parts => simp [Rows.uptoBulk]
  | iface t d => simp [Rows.uptoBulk]
  | map entries => simp [Rows.uptoBulk]
  | held h => simp [Rows.uptoBulk]
theorem bulk_len {H : Type} : ∀ l : List (DataW H), l.length ≤ Rows.uptoBulkAll l
  | [] => by simp
  | d :: r => by
    have := bulk_pos d
    have := bulk_len r
    simp only [Rows.uptoBulkAll, List.length_cons]
    omega
/-- Where what is read is small: each step's list is. -/
theorem ops_small {H : Type} {d : DataW H} {l : List S35} {ds : List (DataW H)} (hD : DatO d l) (hk : Rows.uptoSmall H ds = true) (hd : d ∈ ds) : ∀ x ∈ l, x.f4.length ≤ 1048576 := by
  have h : Rows.uptoBulkAll ds ≤ 1048576 := of_decide_eq_true hk
  have h1 := part_le hd
  rcases hD with ⟨rfl, _⟩ | ⟨n, D, R, spare, rfl, rfl, hX⟩
  · simp
  · intro x hx
    obtain ⟨i, hi, rfl⟩ := List.mem_map.1 hx
    obtain ⟨dL, hDi, hI, _, _⟩ := hX i (List.mem_range.1 hi)
    have h2 : Rows.uptoBulk (D i) ≤ Rows.uptoBulkAll ((List.range n).map D) := part_le (List.mem_map.2 ⟨i, hi, rfl⟩)
    rw [hDi] at h2
    simp only [Rows.uptoBulk, Rows.uptoBulkAll] at h1 h2
    rcases hI with ⟨h0, _⟩ | ⟨elems, sp, rfl, hlen⟩
    · rw [h0]; simp
    · have := bulk_len elems
      simp only [Rows.uptoBulk] at h2
      omega
end Go.Proofs.YtmicghhmbojkfaaGreatDoor.Br
