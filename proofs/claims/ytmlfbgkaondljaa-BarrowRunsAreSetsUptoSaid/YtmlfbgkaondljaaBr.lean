/- From a row's reading to a list of runs: what the printed walks want of a slice of runs that came in. -/
import Derived.Test.YtmlfbgkaondljaaGx0
import Derived.Test.YtmlfbgkaondljaaRows
import Derived.Deep.Slices
import Derived.Deep.Fields
import Derived.ChangeSame
import Derived.SizedLaws
import Derived.WalkKit
import Derived.ProofKit
import Derived.OpenShut
namespace Go.Proofs.Ytmlfbgkaondljaa.Br
open Go.ChangeShapes Go.WideShapes Go.Deep Go.RowKit
open Go.Proofs.Ytmlfbgkaondljaa.G Go.Proofs.YtmlfbgkaondljaaW.PrintWords Go.Proofs.YtmlfbgkaondljaaW.PrintLast Go.Proofs.YtmlfbgkaondljaaW.PrintMore
set_option linter.unusedVariables false
section
variable {H : Type} {enc : TypeId × Value → H} {P : Program} {w : World} {base : Nat} {spare : Nat → Bool} {held : Bool}
theorem open_slice_fields {t e : TypeId} {fs : Array Field} {fuel : Nat} {cs : List Value} {x : DataW H × List MemPlace} (ht : P.underlying t = some (.slice e)) (he : P.underlying e = some (.struct fs))
    (hone : oneCellFields P fs = true) (hC : P.cellsOf e = fs.size) (h : DataW.trod enc P w base spare held fuel t cs = some x) :
    (cs = [.slice none 0 0] ∧ x = (.nil, [])) ∨
    ∃ (a : Addr) (len cap m : Nat) (D : Nat → DataW H) (Pl : Nat → List MemPlace), cs = [.slice (some a) len cap] ∧ base ≤ a.block ∧ len ≤ cap ∧ cap ≤ maxLen ∧ m = (if spare a.block then cap else len) ∧
      x = (.slice ((List.range len).map D) ((List.range (m - len)).map fun j => D (len + j)), MemPlace.row a (m * fs.size) ++ (List.range m).flatMap Pl) ∧
      ∀ i, i < m → ∃ (ys : List (DataW H × List MemPlace)) (n : Nat), D i = .agg (ys.map (·.1)) ∧ Pl i = ys.flatMap (·.2) ∧ ys.length = fs.size ∧
        ∀ (j : Nat) (f : Field), fs[j]? = some f → ∃ (v : Value) (y : DataW H × List MemPlace), w.cell? (a.add (i * fs.size + j)) = some v ∧ ys[j]? = some y ∧ DataW.trod enc P w base spare held n f.type [v] = some y := by
  rcases open_slice ht h with h0 | ⟨a, len, cap, m, n, D, Pl, hcs, hb, hl, hm, hmm, hx, hi⟩
  · exact .inl h0
  · refine .inr ⟨a, len, cap, m, D, Pl, hcs, hb, hl, hm, hmm, by rw [hC] at hx; exact hx, fun i him => ?_⟩
    obtain ⟨cs', hc, ht'⟩ := hi i him
    rw [hC] at hc
    obtain ⟨ys, n', hn', hy, hlen, hyl, hf⟩ := DataW.trod_struct he ht'
    obtain ⟨_, hcl, hat⟩ := World.cells?_some hc
    simp only [Prod.mk.injEq] at hy
    refine ⟨ys, n', hy.1, hy.2, hyl, fun j f hj => ?_⟩
    obtain ⟨ho, hk⟩ := hone_of hone j f hj
    have hjl : j < fs.size := (Array.getElem?_eq_some_iff.1 hj).1
    have hcell := hat j hjl
    have hv : cs'[j]? = some (cs'[j]'(by omega)) := List.getElem?_eq_getElem (by omega)
    have h1 := hf j f hj
    rw [ho, hk] at h1
    have hone' : (cs'.drop j).take 1 = [cs'[j]'(by omega)] := by
      rw [List.drop_eq_getElem_cons (by omega)]
      rfl
    rw [hone'] at h1
    have hys : ys[j]? = some (ys[j]'(by omega)) := List.getElem?_eq_getElem (by omega)
    refine ⟨_, _, ?_, hys, h1.trans hys⟩
    rw [← Go.Deep.add_add, hcell, hv]
end
/-- The whole numbers that a run may hold. -/
def WfR (l : List S28) : Prop := ∀ r ∈ l, (Lit.int .i64 r.f0).wf = true ∧ (Lit.int .i64 r.f1).wf = true
theorem wf64 {n : Int} (h : (Lit.int .i64 n).wf = true) : -9223372036854775808 ≤ n ∧ n < 9223372036854775808 := by
  simp only [Lit.wf, IntKind.min, IntKind.max, IntKind.signed, IntKind.bits] at h
  simp at h
  omega
theorem C_of_cells (w : World) (a : Addr) (l : List S28) (hl : l.length ≤ 9223372036854775807) (h : ∀ i r, l[i]? = some r → w.cell? (a.add (i * 2)) = some (.int .i64 r.f0) ∧ w.cell? (a.add (i * 2 + 1)) = some (.int .i64 r.f1)) : Kd.C k28 w (some a) l.length l := by
  refine ⟨rfl, hl, fun _ => ⟨a, rfl, fun j p hj => ?_⟩⟩
  obtain ⟨h0, h1⟩ := h j p hj
  refine ⟨[.int .i64 p.f0, .int .i64 p.f1], rfl, ⟨[.int .i64 p.f0], [.int .i64 p.f1], rfl, rfl, rfl⟩, fun i u hu => ?_⟩
  match i with
  | 0 => simp only [List.getElem?_cons_zero, Option.some.injEq] at hu; subst hu; exact h0
  | 1 => simp only [List.getElem?_cons_succ, List.getElem?_cons_zero, Option.some.injEq] at hu; subst hu; exact h1
  | n + 2 => simp at hu
theorem C_none (w : World) : Kd.C k28 w none ([] : List S28).length [] := ⟨rfl, Nat.zero_le _, fun h => absurd h (by simp)⟩
theorem C_V {w : World} {A : Option Addr} {l : List S28} {c : Nat} (h : Kd.C k28 w A l.length l) (hc : l.length ≤ c) : Kd.V k28 28 w w.heap.size (fun k => True) (.slice A l.length c) l :=
  Kd.V_mk hc (fun W' hW => Kd.Heap.C (Kd.heap_iso _ (Kd.heap_pair (Kd.heap_int _) (Kd.heap_int _))) (fun k hk => hW k trivial hk) h)
/-- What a reading's datum holds of a list of runs at least. -/
def Dat {H : Type} (d : DataW H) (l : List S28) : Prop := (l = [] ∧ d = .nil) ∨ ∃ elems spare, d = .slice elems spare ∧ elems.length = l.length ∧ ∀ e ∈ elems, ∃ parts, e = .agg parts ∧ parts.length = 2
theorem open_runs {H : Type} {enc : TypeId × Value → H} {W : World} {d : DataW H} {p : List MemPlace} {a : Option Addr} {len cap : Nat} {t : TypeId} (ht : Try.prog.underlying t = some (.slice 28))
    (h : DataW.Trod enc Try.prog W 0 (fun _ => true) true t (.slice a len cap) d p) :
    ∃ l : List S28, l.length = len ∧ l.length ≤ cap ∧ l.length ≤ maxLen ∧ WfR l ∧ Kd.C k28 W a l.length l ∧ Dat d l := by
  obtain ⟨fuel, hf⟩ := h
  rcases open_slice_fields ht Try.underlying28 (by kernel_rfl) (by kernel_rfl) hf with ⟨hcs, hx⟩ | ⟨x, l, c, m, D, Pl, hcs, _, hl, hm, hmm, hx, hi⟩
  · simp only [Value.cells, List.cons.injEq, Value.slice.injEq, and_true] at hcs
    obtain ⟨rfl, rfl, rfl⟩ := hcs
    simp only [Prod.mk.injEq] at hx
    exact ⟨[], rfl, Nat.le_refl _, Nat.zero_le _, by intro r hr; simp at hr, C_none W, .inl ⟨rfl, hx.1⟩⟩
  · simp only [Value.cells, List.cons.injEq, Value.slice.injEq, and_true] at hcs
    obtain ⟨rfl, rfl, rfl⟩ := hcs
    simp only [if_true] at hmm
    subst hmm
    have key : ∀ i, i < m → ∃ r : S28, W.cell? (x.add (i * 2)) = some (.int .i64 r.f0) ∧ W.cell? (x.add (i * 2 + 1)) = some (.int .i64 r.f1) ∧ (Lit.int .i64 r.f0).wf = true ∧ (Lit.int .i64 r.f1).wf = true ∧ ∃ parts, D i = .agg parts ∧ parts.length = 2 := by
      intro i him
      obtain ⟨ys, n, hD, _, hys, hfl⟩ := hi i him
      obtain ⟨v0, y0, hc0, hy0, ht0⟩ := hfl 0 _ rfl
      obtain ⟨v1, y1, hc1, hy1, ht1⟩ := hfl 1 _ rfl
      obtain ⟨n0, hv0, _, hw0⟩ := DataW.trod_int (k := .i64) (by kernel_rfl) ht0
      obtain ⟨n1, hv1, _, hw1⟩ := DataW.trod_int (k := .i64) (by kernel_rfl) ht1
      simp only [List.cons.injEq, and_true] at hv0 hv1
      subst hv0; subst hv1
      exact ⟨⟨n0, n1⟩, hc0, hc1, hw0, hw1, _, hD, by rw [List.length_map, hys]; rfl⟩
    have key2 : ∀ i : Nat, ∃ r : S28, i < m → W.cell? (x.add (i * 2)) = some (.int .i64 r.f0) ∧ W.cell? (x.add (i * 2 + 1)) = some (.int .i64 r.f1) ∧ (Lit.int .i64 r.f0).wf = true ∧ (Lit.int .i64 r.f1).wf = true ∧ ∃ parts, D i = .agg parts ∧ parts.length = 2 := by
      intro i
      by_cases him : i < m
      · obtain ⟨r, hr⟩ := key i him; exact ⟨r, fun _ => hr⟩
      · exact ⟨⟨0, 0⟩, fun h => absurd h him⟩
    obtain ⟨R, hR⟩ := Classical.axiomOfChoice key2
    have hlen : ((List.range len).map R).length = len := by simp
    simp only [Prod.mk.injEq] at hx
    refine ⟨(List.range len).map R, hlen, by rw [hlen]; exact hl, by rw [hlen]; omega, ?_, ?_, .inr ⟨_, _, hx.1, by simp, ?_⟩⟩
    · intro r hr
      rw [List.mem_map] at hr
      obtain ⟨i, hi2, rfl⟩ := hr
      have := hR i (by rw [List.mem_range] at hi2; omega)
      exact ⟨this.2.2.1, this.2.2.2.1⟩
    · refine C_of_cells W x _ (by rw [hlen]; have : maxLen = 9223372036854775807 := rfl; omega) (fun i r hir => ?_)
      rw [List.getElem?_map] at hir
      rcases Nat.lt_or_ge i len with h1 | h1
      · rw [List.getElem?_range h1] at hir
        simp only [Option.map_some, Option.some.injEq] at hir
        subst hir
        have := hR i (by omega)
        exact ⟨this.1, this.2.1⟩
      · rw [List.getElem?_eq_none (by simp; omega)] at hir
        simp at hir
    · intro e he
      rw [List.mem_map] at he
      obtain ⟨i, hi2, rfl⟩ := he
      exact (hR i (by rw [List.mem_range] at hi2; omega)).2.2.2.2
theorem sized_runs {H : Type} {d : DataW H} {l : List S28} {ts : List TypeId} {ds : List (DataW H)} {j : Nat} {t : TypeId} (ht : Try.prog.underlying t = some (.slice 28)) (hD : Dat d l) (hsz : (DataW.weightsEach Try.prog ts ds).all (· ≤ reachBytes) = true) (hj : ts[j]? = some t) (hd : ds[j]? = some d) : l.length ≤ 8796093022208 := by
  rcases hD with ⟨rfl, _⟩ | ⟨elems, spare, rfl, he, _⟩
  · simp
  · have z := sized_slice hsz hj hd ht
    have hb : Try.prog.bytesOf 28 = 16 := by kernel_rfl
    have hr : reachBytes = 140737488351232 := by kernel_rfl
    rw [hb, hr] at z
    omega
theorem agg_bulk {H : Type} (parts : List (DataW H)) (h : parts.length = 2) : 3 ≤ Rows.uptoBulk (.agg parts) := by
  match parts, h with
  | [x, y], _ =>
    have one : ∀ d : DataW H, 1 ≤ Rows.uptoBulk d := by
      intro d
      cases d with
      | lit l => cases l <;> simp [Rows.uptoBulk]
      | nil => simp [Rows.uptoBulk]
      | ptr d => simp [Rows.uptoBulk]
      | slice elems spare => simp [Rows.uptoBulk]
      | agg parts => simp [Rows.uptoBulk]
      | iface t d => simp [Rows.uptoBulk]
      | map entries => simp [Rows.uptoBulk]
      | held h => simp [Rows.uptoBulk]
    have := one x; have := one y
    simp only [Rows.uptoBulk, Rows.uptoBulkAll]
    omega
theorem runs_bulk {H : Type} (elems : List (DataW H)) (h : ∀ e ∈ elems, ∃ parts, e = DataW.agg parts ∧ parts.length = 2) : 3 * elems.length ≤ Rows.uptoBulkAll elems := by
  induction elems with
  | nil => simp
  | cons x t ih =>
    obtain ⟨parts, rfl, hp⟩ := h x (by simp)
    have := agg_bulk parts hp
    have := ih (fun e he => h e (by simp [he]))
    simp only [Rows.uptoBulkAll, List.length_cons]
    omega
theorem dat_bulk {H : Type} {d : DataW H} {l : List S28} (hD : Dat d l) : 3 * l.length ≤ Rows.uptoBulk d := by
  rcases hD with ⟨rfl, _⟩ | ⟨elems, spare, rfl, he, h⟩
  · simp
  · have := runs_bulk elems h
    simp only [Rows.uptoBulk]
    omega
theorem part_le {H : Type} {d : DataW H} {l : List (DataW H)} (h : d ∈ l) : Rows.uptoBulk d ≤ Rows.uptoBulkAll l := by
  induction l with
  | nil => cases h
  | cons x r ih =>
    simp only [Rows.uptoBulkAll]
    cases List.mem_cons.1 h with
    | inl e => subst e; omega
    | inr e => have := ih e; omega
theorem small_runs {H : Type} {d : DataW H} {l : List S28} {ds : List (DataW H)} (hD : Dat d l) (hk : Rows.uptoSmall H ds = true) (hd : d ∈ ds) : l.length ≤ 349525 := by
  have h : Rows.uptoBulkAll ds ≤ 1048576 := of_decide_eq_true hk
  have := part_le hd
  have := dat_bulk hD
  omega
theorem open_rune {H : Type} {enc : TypeId × Value → H} {W : World} {fuel : Nat} {v : Value} {y : DataW H × List MemPlace}
    (hf : DataW.trod enc Try.prog W 0 (fun _ => true) true fuel 22 [v] = some y) :
    ∃ (a : Option Addr) (cap : Nat) (l : List S28), v = .slice a l.length cap ∧ l.length ≤ cap ∧ l.length ≤ maxLen ∧ Kd.C k28 W a l.length l ∧ Dat y.1 l := by
  obtain ⟨d, p⟩ := y
  have hs : ∃ a n c, v = .slice a n c := by
    rcases open_slice_fields Try.underlying22 Try.underlying28 (by kernel_rfl) (by kernel_rfl) hf with ⟨hcs, hx⟩ | ⟨x, l, c, m, D, Pl, hcs, _⟩
    · exact ⟨_, _, _, (List.cons.inj hcs).1⟩
    · exact ⟨_, _, _, (List.cons.inj hcs).1⟩
  obtain ⟨a, n, c, rfl⟩ := hs
  obtain ⟨l, rfl, h1, h2, _, h3, h4⟩ := open_runs Try.underlying22 (⟨fuel, hf⟩ : DataW.Trod enc Try.prog W 0 (fun _ => true) true 22 (.slice a n c) d p)
  exact ⟨a, c, l, rfl, h1, h2, h3, h4⟩
/-- The struct of three lists and a number. -/
theorem open_three {H : Type} {enc : TypeId × Value → H} {w : World} {r : Reach} {b0 : Nat} {v : Value} {d : DataW H} {p : List MemPlace} (hv : Value.okWide Try.prog w r b0 24 v) (h : DataW.Trod enc Try.prog w 0 (fun _ => true) true 24 v d p) :
    ∃ (A0 A1 A2 : Option Addr) (c0 c1 c2 : Nat) (l0 l1 l2 : List S28) (d0 d1 d2 : DataW H) (n : Int), v = .agg #[.slice A0 l0.length c0, .slice A1 l1.length c1, .slice A2 l2.length c2, .int .i64 n] ∧ (l0.length ≤ c0 ∧ l1.length ≤ c1 ∧ l2.length ≤ c2) ∧
      (Kd.C k28 w A0 l0.length l0 ∧ Kd.C k28 w A1 l1.length l1 ∧ Kd.C k28 w A2 l2.length l2) ∧ (l0.length ≤ maxLen ∧ l1.length ≤ maxLen ∧ l2.length ≤ maxLen) ∧ (Dat d0 l0 ∧ Dat d1 l1 ∧ Dat d2 l2) ∧ d = .agg [d0, d1, d2, .lit (.int .i64 n)] := by
  obtain ⟨cs, rfl, hsz⟩ := okWide_struct Try.underlying24 hv
  obtain ⟨fuel, hf⟩ := h
  obtain ⟨l⟩ := cs
  have hf0 : DataW.trod enc Try.prog w 0 (fun _ => true) true fuel 24 l = some (d, p) := hf
  obtain ⟨xs, n, _, hx, hlen, hxl, hfs⟩ := DataW.trod_struct Try.underlying24 hf0
  have h4 : Try.prog.cellsOf 24 = 4 := by kernel_rfl
  have e22 : Try.prog.cellsOf 22 = 1 := by kernel_rfl
  have e3 : Try.prog.cellsOf 3 = 1 := by kernel_rfl
  rw [h4] at hlen
  have hxl2 : xs.length = 4 := hxl
  match l, hlen, xs, hxl2 with
  | [c0, c1, c2, c3], _, [y0, y1, y2, y3], _ =>
    have t0 : DataW.trod enc Try.prog w 0 (fun _ => true) true n 22 (([c0, c1, c2, c3].drop 0).take (Try.prog.cellsOf 22)) = some y0 := hfs 0 _ rfl
    have t1 : DataW.trod enc Try.prog w 0 (fun _ => true) true n 22 (([c0, c1, c2, c3].drop 1).take (Try.prog.cellsOf 22)) = some y1 := hfs 1 _ rfl
    have t2 : DataW.trod enc Try.prog w 0 (fun _ => true) true n 22 (([c0, c1, c2, c3].drop 2).take (Try.prog.cellsOf 22)) = some y2 := hfs 2 _ rfl
    have t3 : DataW.trod enc Try.prog w 0 (fun _ => true) true n 3 (([c0, c1, c2, c3].drop 3).take (Try.prog.cellsOf 3)) = some y3 := hfs 3 _ rfl
    simp only [e22, e3, List.drop_zero, List.drop_succ_cons, List.take_succ_cons, List.take_zero] at t0 t1 t2 t3
    obtain ⟨A0, k0, l0, hv0, hlo0, hm0, hC0, hD0⟩ := open_rune t0
    obtain ⟨A1, k1, l1, hv1, hlo1, hm1, hC1, hD1⟩ := open_rune t1
    obtain ⟨A2, k2, l2, hv2, hlo2, hm2, hC2, hD2⟩ := open_rune t2
    obtain ⟨n3, v3, d3, w3⟩ := DataW.trod_int (k := .i64) (by kernel_rfl) t3
    simp only [List.cons.injEq, and_true] at v3
    subst hv0; subst hv1; subst hv2; subst v3
    refine ⟨A0, A1, A2, k0, k1, k2, l0, l1, l2, y0.1, y1.1, y2.1, n3, rfl, ⟨hlo0, hlo1, hlo2⟩, ⟨hC0, hC1, hC2⟩, ⟨hm0, hm1, hm2⟩, ⟨hD0, hD1, hD2⟩, ?_⟩
    simp only [Prod.mk.injEq] at hx
    rw [hx.1]
    simp only [List.map_cons, List.map_nil]
    rw [d3]
theorem three_small {H : Type} {d0 d1 d2 : DataW H} {n : Int} {l0 l1 l2 : List S28} {ds : List (DataW H)} (hk : Rows.uptoSmall H ds = true) (hd : DataW.agg [d0, d1, d2, .lit (.int .i64 n)] ∈ ds) (h0 : Dat d0 l0) (h1 : Dat d1 l1) (h2 : Dat d2 l2) :
    l0.length ≤ 349525 ∧ l1.length ≤ 349525 ∧ l2.length ≤ 349525 := by
  have h : Rows.uptoBulkAll ds ≤ 1048576 := of_decide_eq_true hk
  have hp := part_le hd
  simp only [Rows.uptoBulk, Rows.uptoBulkAll] at hp
  have a := dat_bulk h0
  have b := dat_bulk h1
  have c := dat_bulk h2
  omega
end Go.Proofs.Ytmlfbgkaondljaa.Br
