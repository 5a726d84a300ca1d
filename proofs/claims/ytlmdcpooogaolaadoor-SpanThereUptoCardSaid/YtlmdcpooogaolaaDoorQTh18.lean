import Derived.Test.YtlmdcpooogaolaaDoorQTh17
import Derived.Test.YtlmdcpooogaolaaDoorQTh11
import Derived.Test.YtlmdcpooogaolaaDoorQTh12
import Derived.Test.YtlmdcpooogaolaaDoorQTh7
import Derived.Maps.AppendAt
/- span.Read of the program's text: what it answers for every text shorter than 2^32 - 15 bytes. -/
namespace Go.Proofs.YtlmdcpooogaolaaDoor.G
open Go.RowKit Go.Shelf Go.Proofs.YtlmdcpooogaolaaDoor.Rg Go.Proofs.YtlmdcpooogaolaaDoorW.PrintWords Go.Proofs.YtlmdcpooogaolaaDoorW.PrintLast Go.Proofs.YtlmdcpooogaolaaDoorW.PrintMore
set_option linter.unusedVariables false
attribute [local go_sem] Oper.semAt_some
/-- internal/bytealg.MaxLen holds some number. -/
def TabM (w : World) : Prop := ∃ m, w.cell? ⟨0, 0, none⟩ = some (.int .i64 m) ∧ 0 < w.heap.size
theorem tabM_keep {w w' : World} (h : Aside0 (TabM w)) (hb : Below w.heap.size w w') : Aside0 (TabM w') := by
  obtain ⟨m, hm, h0⟩ := h.out
  exact ⟨⟨m, (hb.cell (p := ⟨0, 0, none⟩) h0).trans hm, Nat.lt_of_lt_of_le h0 hb.size⟩⟩
def cutD (s : ByteArray) : List UInt8 × List UInt8 × Bool := Lib.cut s.data.toList (⟨#[46, 46]⟩ : ByteArray).data.toList
def loD (s : ByteArray) : Int := num ⟨(cutD s).1.toArray⟩
def hiD (s : ByteArray) : Int := if (cutD s).2.2 = true then num ⟨(cutD s).2.1.toArray⟩ else loD s
def okD (s : ByteArray) : Bool := !(loD s == 0 || hiD s == 0 || ((cutD s).2.2 && decide (hiD s ≤ loD s)))
def runD (s : ByteArray) : S32 := ⟨loD s, hiD s⟩
theorem number_in (n : Nat) (s : ByteArray) (w : World) : CallsIn Fence.wide n Tryd.prog 15 #[.string s] w fun e w' => e = .returned (.int .i64 (num s)) ∧ ∃ q, w' = w.drewN q :=
  callsIn_wide.2 ((span_number.calls 12 s _ w (number_eq s)).mono fun e w' ⟨he, hd⟩ => ⟨he, hd.out⟩)
theorem cut_in (n : Nat) (s : ByteArray) (w : World) (hs : s.size < 4294967281) (hM : TabM w) : CallsIn Fence.wide n Tryd.prog 14 #[.string s, .string ⟨#[46, 46]⟩] w fun e w' =>
    e = .returned (.tuple #[.string ⟨(cutD s).1.toArray⟩, .string ⟨(cutD s).2.1.toArray⟩, .bool (cutD s).2.2]) ∧ ∃ q, w' = w.drewN q := by
  obtain ⟨m, hm, _⟩ := hM
  exact callsIn_wide.2 (Tryd.strings_Cut s ⟨#[46, 46]⟩ m w hs hm)

def readD (s : ByteArray) : List S32 × Int :=
  if s.toList = [110, 111, 110, 101] then ([], 0) else if (split s).all okD = true then (if Pure.normB (-1) ((split s).map runD) = true then ((split s).map runD, 0) else ([], 17)) else ([], 17)
/-- The frame of a round. -/
def rdAct (s x : ByteArray) (w : World) : Act := { tmps := #[.string s, undef, .pointer (some ⟨w.heap.size, 0, none⟩), .pointer (some ⟨w.heap.size + 1, 0, none⟩), .pointer (some ⟨w.heap.size + 2, 0, none⟩), .string x, undef, undef, undef, undef, .string s, .bool false, .string s, .func (.func 34) #[] #[.pointer (some ⟨w.heap.size + 4, 0, none⟩), .pointer (some ⟨w.heap.size + 3, 0, none⟩), .pointer (some ⟨w.heap.size + 5, 0, none⟩)], .string x, undef, undef, undef, undef, undef, undef, undef, undef, undef, undef, undef, undef, undef, undef, undef, undef, undef, undef, undef, undef, undef, undef, undef, undef, undef, undef, undef, undef, undef, undef, undef, undef, undef, undef, undef, undef, undef, undef, undef, undef, undef, undef], defers := [] }
/-- Between two rounds. -/
structure RdI (w : World) (pre : List ByteArray) (W : World) : Prop where
  ok : pre.all okD = true
  b0 : Boxed W w.heap.size 22 (.slice none 0 0)
  b1 : Boxed W (w.heap.size + 1) 23 (.int .i64 0)
  b3 : ∃ u, Boxed W (w.heap.size + 3) 9 (.string u)
  b4 : Boxed W (w.heap.size + 4) 9 (.string ⟨#[44]⟩)
  b5 : Boxed W (w.heap.size + 5) 3 (.int .i64 0)
  row : ∃ v, Boxed W (w.heap.size + 2) 22 v ∧ W.ownsRow w.heap.size 32 2 v pre.length (runCells (pre.map runD))
  below : Below w.heap.size w W
structure RdX (w : World) (c : Code) (pre : List ByteArray) (W : World) : Prop where
  ret : c = .ret
  bad : pre.all okD = false
  b0 : Boxed W w.heap.size 22 (.slice none 0 0)
  b1 : Boxed W (w.heap.size + 1) 23 (.int .i64 17)
  b3 : ∃ u, Boxed W (w.heap.size + 3) 9 (.string u)
  below : Below w.heap.size w W
theorem below_others {W W' : World} (h : Below W.heap.size W W') : KeepsOthers W W' :=
  ⟨h.size, fun k o hk _ => (h.block k (Array.getElem?_eq_some_iff.1 hk).1).trans hk⟩
theorem boxB {W W' : World} {B : Nat} {t : TypeId} {v : Value} (b : Boxed W B t v) (h : Below W.heap.size W W') : Boxed W' B t v := (h.block B b.lt).trans b
theorem rowB {W W' : World} {base e size n : Nat} {v : Value} {xs : List Value} (b : W.ownsRow base e size v n xs) (h : Below W.heap.size W W') : W'.ownsRow base e size v n xs :=
  b.kept (row := none) ⟨h.os, h.tape, h.output, h.size, fun k hk _ => h.block k hk⟩ (by cases v.ownBlock <;> simp)
/-- What the body of a round reads and writes. -/
theorem rd_facts {w W Wr : World} {v : Value} (hb : Below W.heap.size W Wr) (h2 : Boxed W w.heap.size 22 (.slice none 0 0)) (h3 : Boxed W (w.heap.size + 1) 23 (.int .i64 0)) (h4 : Boxed W (w.heap.size + 2) 22 v) :
    Wr.cell? ⟨w.heap.size + 2, 0, none⟩ = some v ∧ Wr.frozen? ⟨w.heap.size + 2, 0, none⟩ = false ∧
    Wr.cell? ⟨w.heap.size, 0, none⟩ = some (.slice none 0 0) ∧ Wr.frozen? ⟨w.heap.size, 0, none⟩ = false ∧
    Wr.cell? ⟨w.heap.size + 1, 0, none⟩ = some (.int .i64 0) ∧ Wr.frozen? ⟨w.heap.size + 1, 0, none⟩ = false ∧
    (∀ u, (Wr.setCell ⟨w.heap.size, 0, none⟩ u).cell? ⟨w.heap.size + 1, 0, none⟩ = some (.int .i64 0)) ∧ (∀ u, (Wr.setCell ⟨w.heap.size, 0, none⟩ u).frozen? ⟨w.heap.size + 1, 0, none⟩ = false) := by
  have g2 := boxB h2 hb; have g3 := boxB h3 hb; have g4 := boxB h4 hb
  exact ⟨g4.cell, g4.frozen, g2.cell, g2.frozen, g3.cell, g3.frozen, fun u => (g3.other (by omega) u).cell, fun u => (g3.other (by omega) u).frozen⟩
/-- The words abide what the loop's own book-keeping does. -/
theorem rdI_own {w A B : World} {pre : List ByteArray} {row : Option Nat} {N : Nat} (hN : w.heap.size + 6 ≤ N) (h : RdI w pre A) (hg : A.grownBy B row) (hr : ∀ r, row = some r → N ≤ r ∧ ∃ o : Obj, A.heap[r]? = some o ∧ o.isCells = false) : RdI w pre B := by
  have ne : ∀ {k : Nat}, k < w.heap.size + 6 → some k ≠ row := fun hk e => by have := (hr _ e.symm).1; omega
  obtain ⟨u, hu⟩ := h.b3
  obtain ⟨v, hv, hrow⟩ := h.row
  refine ⟨h.ok, h.b0.kept hg (ne (by omega)), h.b1.kept hg (ne (by omega)), ⟨u, hu.kept hg (ne (by omega))⟩, h.b4.kept hg (ne (by omega)), h.b5.kept hg (ne (by omega)), ⟨v, hv.kept hg (ne (by omega)), hrow.kept hg ?_⟩, h.below.grown hg h.below.size (fun k e => by have := (hr k e).1; omega)⟩
  rcases hrow.2 with ⟨rfl, _⟩ | ⟨g, cap, cur, rfl, hgb, hgh, _⟩
  · exact .inl rfl
  · refine .inr fun e => ?_
    obtain ⟨_, o, ho, hc⟩ := hr g (by simpa [Value.ownBlock] using e.symm)
    rw [hgh] at ho; cases ho; cases hc
theorem rdX_own {w A B : World} {pre : List ByteArray} {c : Code} {row : Option Nat} {N : Nat} (hN : w.heap.size + 6 ≤ N) (h : RdX w c pre A) (hg : A.grownBy B row) (hr : ∀ r, row = some r → N ≤ r ∧ ∃ o : Obj, A.heap[r]? = some o ∧ o.isCells = false) : RdX w c pre B := by
  have ne : ∀ {k : Nat}, k < w.heap.size + 6 → some k ≠ row := fun hk e => by have := (hr _ e.symm).1; omega
  obtain ⟨u, hu⟩ := h.b3
  exact ⟨h.ret, h.bad, h.b0.kept hg (ne (by omega)), h.b1.kept hg (ne (by omega)), ⟨u, hu.kept hg (ne (by omega))⟩, h.below.grown hg h.below.size (fun k e => by have := (hr k e).1; omega)⟩
theorem rdI_set {w A : World} {pre : List ByteArray} (h : RdI w pre A) (x : ByteArray) : RdI w pre (A.setCell ⟨w.heap.size + 3, 0, none⟩ (.string x)) := by
  obtain ⟨u, hu⟩ := h.b3
  obtain ⟨v, hv, hrow⟩ := h.row
  exact ⟨h.ok, h.b0.other (by omega) _, h.b1.other (by omega) _, ⟨x, hu.set _⟩, h.b4.other (by omega) _, h.b5.other (by omega) _, ⟨v, hv.other (by omega) _, hrow.kept (grownBy_setCell' A _ _) (.inr (hu.not_row (by decide) hrow).symm)⟩, h.below.setCell (p := ⟨w.heap.size + 3, 0, none⟩) (by simp) _⟩
theorem rdX_set {w A : World} {pre : List ByteArray} {c : Code} (h : RdX w c pre A) (x : ByteArray) : RdX w c pre (A.setCell ⟨w.heap.size + 3, 0, none⟩ (.string x)) := by
  obtain ⟨u, hu⟩ := h.b3
  exact ⟨h.ret, h.bad, h.b0.other (by omega) _, h.b1.other (by omega) _, ⟨x, hu.set _⟩, h.below.setCell (p := ⟨w.heap.size + 3, 0, none⟩) (by simp) _⟩
theorem rdI_drew {w A : World} {pre : List ByteArray} (h : RdI w pre A) (q : Nat) : RdI w pre (A.drewN q) :=
  ⟨h.ok, h.b0, h.b1, h.b3, h.b4, h.b5, h.row, below_drewN h.below q⟩
theorem rdX_drew {w A : World} {pre : List ByteArray} {c : Code} (h : RdX w c pre A) (q : Nat) : RdX w c pre (A.drewN q) :=
  ⟨h.ret, h.bad, h.b0, h.b1, h.b3, below_drewN h.below q⟩
/-- The two cells of the round's own variable. -/
theorem rd_two {w2 w4 : World} {q : Nat} {lo : Int} (h : w4 = (w2.alloc (.cells #[.int .i64 lo, .int .i64 lo] 32)).drewN q) :
    w4.cell? ⟨w2.heap.size, 1, none⟩ = some (.int .i64 lo) ∧ w4.frozen? ⟨w2.heap.size, 1, none⟩ = false ∧
    (∀ u, (w4.setCell ⟨w2.heap.size, 1, none⟩ u).cell? ⟨w2.heap.size, 0, none⟩ = some (.int .i64 lo)) ∧ (∀ u, (w4.setCell ⟨w2.heap.size, 1, none⟩ u).cell? ⟨w2.heap.size, 1, none⟩ = some u) := by
  have h1 : w4.cell? ⟨w2.heap.size, 1, none⟩ = some (.int .i64 lo) := by rw [h]; simp
  have h0 : w4.cell? ⟨w2.heap.size, 0, none⟩ = some (.int .i64 lo) := by rw [h]; simp
  exact ⟨h1, by rw [h]; simp, fun u => (World.cell?_setCell_other _ _ _ _ (by simp)).trans h0, fun u => World.cell?_setCell_same' _ _ _ (by rw [h1]; rfl)⟩
/-- A bad piece: the two results are written. -/
theorem rd_ret {w W Wr : World} {pre : List ByteArray} {x : ByteArray} (h : RdI w pre W) (hb : Below W.heap.size W Wr) (hx : okD x = false) :
    KeepsOthers W ((Wr.setCell ⟨w.heap.size, 0, none⟩ (.slice none 0 0)).setCell ⟨w.heap.size + 1, 0, none⟩ (.int .i64 17)) ∧
    RdX w .ret (pre ++ [x]) ((Wr.setCell ⟨w.heap.size, 0, none⟩ (.slice none 0 0)).setCell ⟨w.heap.size + 1, 0, none⟩ (.int .i64 17)) := by
  obtain ⟨u, hu⟩ := h.b3
  refine ⟨((below_others hb).trans (KeepsOthers.setCell _ _ _)).trans (KeepsOthers.setCell _ _ _), rfl, by simp [hx], ?_, ?_, ⟨u, ?_⟩, ?_⟩
  · exact ((boxB h.b0 hb).set _).other (by omega) _
  · exact ((boxB h.b1 hb).other (by omega) _).set _
  · exact ((boxB hu hb).other (by omega) _).other (by omega) _
  · exact ((h.below.trans (hb.mono h.below.size)).setCell (p := ⟨w.heap.size, 0, none⟩) (Nat.le_refl _) _).setCell (p := ⟨w.heap.size + 1, 0, none⟩) (by simp) _
/-- A good piece: its run stands behind the list. -/
theorem rd_end {w W Wr w3 : World} {pre : List ByteArray} {x : ByteArray} {v v' : Value} {tmp : Obj} {lo hi : Int} (h : RdI w pre W) (hb : Below W.heap.size W Wr) (hx : okD x = true) (hr : runD x = ⟨lo, hi⟩)
    (h4 : Boxed W (w.heap.size + 2) 22 v) (hrow : W.ownsRow w.heap.size 32 2 v pre.length (runCells (pre.map runD)))
    (hown : w3.ownsRow w.heap.size 32 2 v' (pre.length + 1) (runCells (pre.map runD) ++ [.int .i64 lo, .int .i64 hi])) (hgrow : (Wr.alloc tmp).grownBy w3 v.ownBlock) :
    KeepsOthers W (w3.setCell ⟨w.heap.size + 2, 0, none⟩ v') ∧ Kp3 (w.heap.size + 3) W (w3.setCell ⟨w.heap.size + 2, 0, none⟩ v') ∧ RdI w (pre ++ [x]) (w3.setCell ⟨w.heap.size + 2, 0, none⟩ v') := by
  have hrow2 : Wr.ownsRow w.heap.size 32 2 v pre.length (runCells (pre.map runD)) := rowB hrow hb
  obtain ⟨hv1, hv2, hr2, hk2, hb2⟩ := (boxB h4 hb).appended (by decide) hrow2 (Nat.le_trans h.below.size hb.size) (Nat.le_add_right _ _) hown hgrow
  have keep : ∀ {B : Nat} {t : TypeId} {u : Value}, Boxed W B t u → t ≠ 32 → B ≠ w.heap.size + 2 → Boxed (w3.setCell ⟨w.heap.size + 2, 0, none⟩ v') B t u := fun hB ht hne =>
    (((boxB hB hb).alloc tmp).kept hgrow ((boxB hB hb).not_row ht hrow2)).other hne _
  obtain ⟨u, hu⟩ := h.b3
  refine ⟨(below_others hb).trans hk2, fun k h1 h2 => ?_, by simp [h.ok, hx], keep h.b0 (by decide) (by omega), keep h.b1 (by decide) (by omega), ⟨u, keep hu (by decide) (by omega)⟩, keep h.b4 (by decide) (by omega), keep h.b5 (by decide) (by omega), ⟨v', hv2, ?_⟩, (h.below.trans (hb.mono h.below.size)).trans hb2⟩
  · have hc : k = w.heap.size + 3 ∨ k = w.heap.size + 4 ∨ k = w.heap.size + 5 := by omega
    rcases hc with rfl | rfl | rfl
    · exact (keep hu (by decide) (by omega)).trans hu.symm
    · exact (keep h.b4 (by decide) (by omega)).trans h.b4.symm
    · exact (keep h.b5 (by decide) (by omega)).trans h.b5.symm
  · have e1 : (pre ++ [x]).map runD = pre.map runD ++ [⟨lo, hi⟩] := by simp [hr]
    have e2 : runCells (pre.map runD ++ [⟨lo, hi⟩]) = runCells (pre.map runD) ++ [.int .i64 lo, .int .i64 hi] := by simp [runCells]
    rw [e1, e2, List.length_append]
    exact hr2
theorem cell_two_new (w : World) (x y : Value) (t : TypeId) {B : Nat} (hB : w.heap.size = B) : ∀ j u, [x, y][j]? = some u → (w.alloc (.cells #[x, y] t)).cell? ((⟨B, 0, none⟩ : Addr).add j) = some u := by
  intro j u hj
  subst hB
  match j, hj with
  | 0, hj => simp at hj; subst hj; simp [Addr.add]
  | 1, hj => simp at hj; subst hj; simp [Addr.add]
theorem spl_size : ∀ (k : Nat) (s x : ByteArray), x ∈ spl k s → x.size ≤ s.size
  | 0, s, x, h => by simp [spl] at h; rw [h]; exact Nat.le_refl _
  | k + 1, s, x, h => by
    rcases comma_cases s with e | ⟨i, e, hi⟩
    · rw [spl_miss _ s e] at h; simp at h; rw [h]; exact Nat.le_refl _
    · rw [spl_hit k s i e] at h
      rcases List.mem_cons.1 h with h | h
      · rw [h]; simp; exact Nat.min_le_right _ _
      · have := spl_size k _ x h
        simp at this
        omega
theorem spl_len : ∀ (k : Nat) (s : ByteArray), (spl k s).length ≤ s.size + 1
  | 0, s => by simp [spl]
  | k + 1, s => by
    rcases comma_cases s with h | ⟨i, h, hi⟩
    · rw [spl_miss _ s h]; simp
    · rw [spl_hit k s i h, List.length_cons]
      have := spl_len k (s.extract (i + 1) s.size)
      simp at this
      omega

/-- The results lie in two cells. -/
theorem results6 {a b : Nat} {A : Option Addr} {n c : Nat} {e : Int} {tmps : Array Value} {W : World} (h2 : tmps.getD 2 undef = .pointer (some ⟨a, 0, none⟩)) (h3 : tmps.getD 3 undef = .pointer (some ⟨b, 0, none⟩))
    (c2 : W.cell? ⟨a, 0, none⟩ = some (.slice A n c)) (c3 : W.cell? ⟨b, 0, none⟩ = some (.int .i64 e)) : (results Tryd.f6 tmps).run Tryd.prog W = .ok (.tuple #[.slice A n c, .int .i64 e]) W := by
  have hr : Tryd.f6.results = #[.cell 2 22, .cell 3 23] := rfl
  have h2' : tmps[2]?.getD undef = .pointer (some ⟨a, 0, none⟩) := by simpa using h2
  have h3' : tmps[3]?.getD undef = .pointer (some ⟨b, 0, none⟩) := by simpa using h3
  simp only [results, hr]
  simp [h2', h3', asAddr, Sem.run_bind, Result.andThen]
  go_simp
/-- The list is at its end: the results are written, the loop's block is taken up. -/
theorem rd_done {w W W0 W5 : World} {pre : List ByteArray} {D : Nat} {tmps : Array Value} {g : Option Addr} {n c : Nat} {er : Int} (h : RdI w pre W) (hb : Below W.heap.size W W5) (hD : W0.heap.size ≤ D) (hK : W.heap[D]? = some (.deferred (some []))) (z0 : W0.heap.size = w.heap.size + 6)
    (l : List S32) (hl : ∀ W', (∀ v, W.ownsRow w.heap.size 32 2 v n (runCells l) → W'.ownsRow w.heap.size 32 2 v n (runCells l)) → Kd.R k32 32 W' w.heap.size (fun _ => True) (.slice g n c) l)
    (h2 : tmps.getD 2 undef = .pointer (some ⟨w.heap.size, 0, none⟩)) (h3 : tmps.getD 3 undef = .pointer (some ⟨w.heap.size + 1, 0, none⟩)) :
    bodyPostM Fence.wide 9 Tryd.prog Tryd.f6 (fun e w' => ∃ v0_ : Value, e = .returned (.tuple #[v0_, .int .i64 er]) ∧ Kd.R k32 32 w' w.heap.size (fun _ => True) v0_ l ∧ Below w.heap.size w w') .ret
      { tmps := tmps, defers := [{ target := .collected D, args := #[] }] } ((W5.setCell ⟨w.heap.size, 0, none⟩ (.slice g n c)).setCell ⟨w.heap.size + 1, 0, none⟩ (.int .i64 er)) := by
  have g0 := ((boxB h.b0 hb).set (.slice g n c)).other (B' := w.heap.size + 1) (by omega) (.int .i64 er)
  have g1 := ((boxB h.b1 hb).other (B' := w.heap.size) (by omega) (.slice g n c)).set (.int .i64 er)
  have hK5 : ((W5.setCell ⟨w.heap.size, 0, none⟩ (.slice g n c)).setCell ⟨w.heap.size + 1, 0, none⟩ (.int .i64 er)).heap[D]? = some (.deferred (some [])) :=
    ((setCell_other _ _ (by omega)).trans (setCell_other _ _ (by omega))).trans ((hb.block D (Array.getElem?_eq_some_iff.1 hK).1).trans hK)
  have k0 := g0.kept (grownBy_putObj' _ D (.deferred none)) (by intro e; cases e; omega)
  have k1 := g1.kept (grownBy_putObj' _ D (.deferred none)) (by intro e; cases e; omega)
  refine ⟨by simp, .inl ⟨_, _, rfl, run_takeDeferred hK5, ?_⟩⟩
  refine ⟨_, results6 h2 h3 k0.cell k1.cell, _, rfl, hl _ (fun v hr => ?_), ?_⟩
  · have r1 := (rowB hr hb).kept (grownBy_setCell' W5 w.heap.size (.slice g n c)) (.inr ((boxB h.b0 hb).not_row (by decide) (rowB hr hb)).symm)
    have b1 := (boxB h.b1 hb).other (B' := w.heap.size) (by omega) (.slice g n c)
    exact ownsRow_putObj (r1.kept (grownBy_setCell' _ (w.heap.size + 1) (.int .i64 er)) (.inr (b1.not_row (by decide) r1).symm)) _ hK5 rfl
  · exact ((((h.below.trans (hb.mono h.below.size)).setCell (p := ⟨w.heap.size, 0, none⟩) (Nat.le_refl _) _).setCell (p := ⟨w.heap.size + 1, 0, none⟩) (by simp) _).trans (belowK_b (w := W0) (by omega) _ D _ _ hD hK5 rfl rfl))
set_option maxRecDepth 100000 in
set_option maxHeartbeats 4000000 in
theorem read_in (s : ByteArray) (hs : s.size < 4294967281) (w : World) (hM : TabM w) :
    Calls Tryd.prog 6 #[.string s] w fun e w' => ∃ v0_ : Value, e = .returned (.tuple #[v0_, .int .i64 (readD s).2]) ∧ Kd.R k32 32 w' w.heap.size (fun _ => True) v0_ (readD s).1 ∧ Below w.heap.size w w' := by
  refine (callsIn_wide (n := 9)).1 ?_
  obtain ⟨i0, hi, hz0, hz1, hz2⟩ := info_parts info32
  refine callsIn_of_wp_marks Tryd.func6 rfl trivial ?_ rfl
  simp only [Tryd.ntmps6, List.size_toArray, List.length_cons, List.length_nil, Nat.reduceAdd, Nat.reduceSub, Array.replicate_succ, Array.replicate_zero, List.push_toArray, List.append_toArray, List.nil_append, List.cons_append]
  gi_wp2_with (refine ⟨trivial, ?_⟩; gi_at_call 13; refine (splitSeq_in 8 (by omega) s _ _).mono ?_; rintro e w' ⟨rfl, rfl⟩)
  · rename_i h
    have h2 : s.toList = [110, 111, 110, 101] := by simpa using h
    have e : readD s = ([], 0) := by unfold readD; rw [if_pos h2]
    have g2 : Boxed ((w.alloc (.cells #[.slice none 0 0] 22)).alloc (.cells #[.int .i64 0] 23)) w.heap.size 22 (.slice none 0 0) := (Boxed.new w 22 (.slice none 0 0)).alloc _
    have g3 : Boxed ((w.alloc (.cells #[.slice none 0 0] 22)).alloc (.cells #[.int .i64 0] 23)) (w.heap.size + 1) 23 (.int .i64 0) := by
      have := Boxed.new (w.alloc (.cells #[.slice none 0 0] 22)) 23 (.int .i64 0)
      rwa [World.size_alloc] at this
    rw [e]
    exact ⟨_, results6 rfl rfl g2.cell g3.cell, _, rfl, Kd.R_nil _ _ _ _ _, ((Below.refl _ w).alloc (Nat.le_refl _) _).alloc (by simp) _⟩
  · rename_i h K hK
    obtain ⟨W0, hW0⟩ : ∃ W0, (((((w.alloc (.cells #[.slice none 0 0] 22)).alloc (.cells #[.int .i64 0] 23)).alloc (.cells #[.slice none 0 0] 22)).alloc (.cells #[.string s] 9)).alloc (.cells #[.string ⟨#[44]⟩] 9)).alloc (.cells #[.int .i64 0] 3) = W0 := ⟨_, rfl⟩
    have z0 : W0.heap.size = w.heap.size + 6 := by rw [← hW0]; simp
    have b2 : Boxed W0 w.heap.size 22 (.slice none 0 0) := by
      rw [← hW0]; exact (((((Boxed.new w 22 (.slice none 0 0)).alloc _).alloc _).alloc _).alloc _).alloc _
    have b3 : Boxed W0 (w.heap.size + 1) 23 (.int .i64 0) := by
      have := Boxed.new (w.alloc (.cells #[.slice none 0 0] 22)) 23 (.int .i64 0)
      rw [World.size_alloc] at this
      rw [← hW0]; exact ((((this).alloc _).alloc _).alloc _).alloc _
    have b4 : Boxed W0 (w.heap.size + 2) 22 (.slice none 0 0) := by
      have := Boxed.new ((w.alloc (.cells #[.slice none 0 0] 22)).alloc (.cells #[.int .i64 0] 23)) 22 (.slice none 0 0)
      rw [World.size_alloc, World.size_alloc] at this
      rw [← hW0]; exact ((this.alloc _).alloc _).alloc _
    have b5 : Boxed W0 (w.heap.size + 3) 9 (.string s) := by
      have := Boxed.new (((w.alloc (.cells #[.slice none 0 0] 22)).alloc (.cells #[.int .i64 0] 23)).alloc (.cells #[.slice none 0 0] 22)) 9 (.string s)
      rw [World.size_alloc, World.size_alloc, World.size_alloc] at this
      rw [← hW0]; exact (this.alloc _).alloc _
    have b6 : Boxed W0 (w.heap.size + 3 + 1) 9 (.string ⟨#[44]⟩) := by
      have := Boxed.new ((((w.alloc (.cells #[.slice none 0 0] 22)).alloc (.cells #[.int .i64 0] 23)).alloc (.cells #[.slice none 0 0] 22)).alloc (.cells #[.string s] 9)) 9 (.string ⟨#[44]⟩)
      rw [World.size_alloc, World.size_alloc, World.size_alloc, World.size_alloc] at this
      rw [← hW0]; exact this.alloc _
    have b7 : Boxed W0 (w.heap.size + 3 + 2) 3 (.int .i64 0) := by
      have := Boxed.new (((((w.alloc (.cells #[.slice none 0 0] 22)).alloc (.cells #[.int .i64 0] 23)).alloc (.cells #[.slice none 0 0] 22)).alloc (.cells #[.string s] 9)).alloc (.cells #[.string ⟨#[44]⟩] 9)) 3 (.int .i64 0)
      rw [World.size_alloc, World.size_alloc, World.size_alloc, World.size_alloc, World.size_alloc] at this
      rw [← hW0]; exact this
    have hB0 : Below w.heap.size w W0 := by
      rw [← hW0]; exact ((((((Below.refl _ w).alloc (Nat.le_refl _) _).alloc (by simp) _).alloc (by simp; omega) _).alloc (by simp; omega) _).alloc (by simp; omega) _).alloc (by simp; omega) _
    rw [hW0]
    simp only [Nat.add_assoc, Nat.reduceAdd]
    have hM0 : TabM W0 := (tabM_keep ⟨hM⟩ hB0).out
    refine wpIn_rangeFunc_ownC (c := w.heap.size + 3) rfl (by omega) (gf := 34) (lb := #[.pointer (some ⟨w.heap.size + 3 + 1, 0, none⟩), .pointer (some ⟨w.heap.size + 3, 0, none⟩), .pointer (some ⟨w.heap.size + 3 + 2, 0, none⟩)]) rfl trivial (enters_of Tryd.func34 (by kernel_rfl) rfl)
      (split_in 8 (by omega) (w.heap.size + 3) s hs W0 (by omega) b5 b6 b7) (by omega) Kp3.t ?keeps (Below.refl _ _) (fun _ => rfl)
      (RdI w) (RdX w) ?own ?ownx ?abide ?abidex ?start (fun x => rdAct s x w) ?assign ?body ?done ?stop
    case keeps =>
      intro W1 l o o' hl _ _ _ k h1 h2
      exact World.putObj_heap_other (by omega)
    case own =>
      intro pre A B row h hg hr
      exact rdI_own (by omega) h hg hr
    case ownx =>
      intro c pre A B row h hg hr
      exact rdX_own (by omega) h hg hr
    case abide => exact ⟨fun pre A x h => rdI_set h x, fun pre A q h => rdI_drew h q⟩
    case abidex => exact fun c => ⟨fun pre A x h => rdX_set h x, fun pre A q h => rdX_drew h q⟩
    case start => exact ⟨rfl, b2, b3, ⟨_, b5⟩, b6, b7, ⟨_, b4, World.ownsRow_nil _ _ _ _⟩, hB0⟩
    case assign =>
      intro l x W K hK
      gi_wp2
      exact hK
    case body =>
      rintro l pre x W hI hlen
      have hlen2 : pre.length < s.size + 1 := by
        have h1 := hlen.length_le
        have h2 := spl_len (s.size + 1) s
        rw [List.length_append, List.length_singleton] at h1
        exact Nat.lt_of_lt_of_le h1 h2
      obtain ⟨v, h4, hrow⟩ := hI.row
      have hxs : x.size < 4294967281 := Nat.lt_of_le_of_lt (spl_size (s.size + 1) s x (hlen.subset (by simp))) hs
      have hMW : TabM W := (tabM_keep ⟨hM⟩ hI.below).out
      have IA := Aside0.mk hI
      unfold rdAct
      obtain ⟨c1, hc1⟩ : ∃ c1, (⟨(cutD x).1.toArray⟩ : ByteArray) = c1 := ⟨_, rfl⟩
      obtain ⟨c2, hc2⟩ : ∃ c2, (⟨(cutD x).2.1.toArray⟩ : ByteArray) = c2 := ⟨_, rfl⟩
      obtain ⟨b, hb⟩ : ∃ b, (cutD x).2.2 = b := ⟨_, rfl⟩
      obtain ⟨lo, hlo⟩ : ∃ lo, num c1 = lo := ⟨_, rfl⟩
      obtain ⟨hh, hhh⟩ : ∃ hh, num c2 = hh := ⟨_, rfl⟩
      have e1 : loD x = lo := by unfold loD; rw [hc1]; exact hlo
      have b1 : pre.length + 1 ≤ maxLen := by unfold maxLen; omega
      have b2 : (pre.length + 1) * 16 ≤ 140737488355328 := by omega
      have b3 : w.heap.size ≤ W.heap.size := hI.below.size
      cases b with
      | false =>
        have e2 : hiD x = lo := by unfold hiD; rw [hb, if_neg (by decide)]; exact e1
        have E1 := Aside0.mk e1; have E2 := Aside0.mk e2; have EB := Aside0.mk hb
        clear e1 e2 hI
        gi_wp2_with (first
          | (refine ⟨trivial, ?_⟩; gi_at_call 14; refine (CallsIn.inRound l (cut_in _ x _ hxs hMW)).mono ?_; rintro e w1 ⟨rfl, q1, hq1⟩; have A1 := Aside0.mk hq1; clear hq1; rw [hc1, hc2, hb])
          | (refine ⟨trivial, ?_⟩; gi_at_call 15; refine (CallsIn.inRound l (number_in _ c1 _)).mono ?_; rintro e w2 ⟨rfl, q2, hq2⟩; rw [hlo]; have A2 := Aside0.mk (show w2 = W.drewN (q1 + q2) from by rw [hq2, A1.out]; exact World.drewN_drewN _ _ _); clear hq2 A1; have AB := Aside0.mk (show ∀ o, Below W.heap.size W (w2.alloc o) from fun o => (show Below W.heap.size W w2 from by rw [A2.out]; exact below_drewN (Below.refl _ _) _).alloc (by rw [A2.out]; exact Nat.le_refl _) o); have hd := (fun o => rd_facts (AB.out o) IA.out.b0 IA.out.b1 h4); obtain ⟨hd1, hd2, hd3, hd4, hd5, hd6, hd7, hd8⟩ := (⟨fun o => (hd o).1, fun o => (hd o).2.1, fun o => (hd o).2.2.1, fun o => (hd o).2.2.2.1, fun o => (hd o).2.2.2.2.1, fun o => (hd o).2.2.2.2.2.1, fun o => (hd o).2.2.2.2.2.2.1, fun o => (hd o).2.2.2.2.2.2.2⟩ : _ ∧ _ ∧ _ ∧ _ ∧ _ ∧ _ ∧ _ ∧ _); clear hd)
          | (gi_at_builtin; refine wpListIn_append_own _ rfl _ _ 22 rfl w.heap.size 32 i0 (.agg #[.int .i64 0, .int .i64 0]) 2 16 Tryd.underlying22 hi hz0 hz1 hz2 rfl (by decide) _ _ _ rfl ((rowB hrow (AB.out _)).alloc _) ⟨w2.heap.size + 1, 0, none⟩ 1 1 [.int .i64 lo, .int .i64 lo] rfl rfl (cell_two_new _ _ _ _ (World.size_alloc _ _)) (by simp [Value.oneCell']) b1 b2 (by have := (AB.out (.cells #[.int .i64 lo, .int .i64 lo] 32)).size; simp at this ⊢; omega) ?_; intro v' w3 hown' hgrow _; have AE := Aside0.mk (And.intro hown' hgrow); obtain ⟨g', cap', rfl⟩ := ownsRow_succ hown'; have hv1 := ((boxB h4 (AB.out (.cells #[.int .i64 lo, .int .i64 lo] 32))).appended (by decide) (rowB hrow (AB.out (.cells #[.int .i64 lo, .int .i64 lo] 32))) (Nat.le_trans b3 (AB.out _).size) (Nat.le_add_right _ _) hown' hgrow).1; have hcv1 := hv1.cell; have hfv1 := hv1.frozen; clear hown' hgrow))
        · have h0 : lo = 0 := by assumption
          exact rd_ret IA.out (AB.out _) (by unfold okD; rw [E1.out, E2.out, EB.out]; simp [h0])
        · have hne : lo ≠ 0 := by assumption
          exact rd_end IA.out (AB.out _) (by unfold okD; rw [E1.out, E2.out, EB.out]; simp [hne]) (by unfold runD; rw [E1.out, E2.out]) h4 hrow AE.out.1 AE.out.2
      | true =>
        have e2 : hiD x = hh := by unfold hiD; rw [hb, if_pos rfl, hc2]; exact hhh
        have E1 := Aside0.mk e1; have E2 := Aside0.mk e2; have EB := Aside0.mk hb
        have N1 := fun (n : Nat) (w : World) => number_in n c1 w
        clear e1 e2 hI
        gi_wp2_with (first
          | (refine ⟨trivial, ?_⟩; gi_at_call 14; refine (CallsIn.inRound l (cut_in _ x _ hxs hMW)).mono ?_; rintro e w1 ⟨rfl, q1, hq1⟩; have A1 := Aside0.mk hq1; clear hq1; rw [hc1, hc2, hb])
          | (refine ⟨trivial, ?_⟩; gi_at_call 15; refine (CallsIn.inRound l (N1 _ _)).mono ?_; clear N1; rintro e w2 ⟨rfl, q2, hq2⟩; rw [hlo]; have A2 := Aside0.mk (show w2 = W.drewN (q1 + q2) from by rw [hq2, A1.out]; exact World.drewN_drewN _ _ _); clear hq2 A1; have AB := Aside0.mk (show ∀ o, Below W.heap.size W (w2.alloc o) from fun o => (show Below W.heap.size W w2 from by rw [A2.out]; exact below_drewN (Below.refl _ _) _).alloc (by rw [A2.out]; exact Nat.le_refl _) o); have hd := (fun o => rd_facts (AB.out o) IA.out.b0 IA.out.b1 h4); obtain ⟨hd1, hd2, hd3, hd4, hd5, hd6, hd7, hd8⟩ := (⟨fun o => (hd o).1, fun o => (hd o).2.1, fun o => (hd o).2.2.1, fun o => (hd o).2.2.2.1, fun o => (hd o).2.2.2.2.1, fun o => (hd o).2.2.2.2.2.1, fun o => (hd o).2.2.2.2.2.2.1, fun o => (hd o).2.2.2.2.2.2.2⟩ : _ ∧ _ ∧ _ ∧ _ ∧ _ ∧ _ ∧ _ ∧ _); clear hd)
          | (refine ⟨trivial, ?_⟩; gi_at_call 15; refine (CallsIn.inRound l (number_in _ c2 _)).mono ?_; rintro e w4 ⟨rfl, q3, hq3⟩; rw [hhh]; have A4 := Aside0.mk hq3; clear hq3; have hz4 : w4.heap.size = w2.heap.size + 1 := (by rw [A4.out]; simp); obtain ⟨hk1, hk2, hk3, hk4⟩ := (rd_two A4.out); have AC := Aside0.mk (show ∀ u, Below W.heap.size W (w4.setCell ⟨w2.heap.size, 1, none⟩ u) from fun u => (show Below W.heap.size W w4 from by rw [A4.out]; exact below_drewN (AB.out _) _).setCell (p := ⟨w2.heap.size, 1, none⟩) (by rw [A2.out]; exact Nat.le_refl _) u); clear hd1 hd2 hd3 hd4 hd5 hd6 hd7 hd8; have hd := (fun o => rd_facts (AC.out o) IA.out.b0 IA.out.b1 h4); obtain ⟨hd1, hd2, hd3, hd4, hd5, hd6, hd7, hd8⟩ := (⟨fun o => (hd o).1, fun o => (hd o).2.1, fun o => (hd o).2.2.1, fun o => (hd o).2.2.2.1, fun o => (hd o).2.2.2.2.1, fun o => (hd o).2.2.2.2.2.1, fun o => (hd o).2.2.2.2.2.2.1, fun o => (hd o).2.2.2.2.2.2.2⟩ : _ ∧ _ ∧ _ ∧ _ ∧ _ ∧ _ ∧ _ ∧ _); clear hd)
          | (gi_at_builtin; refine wpListIn_append_own _ rfl _ _ 22 rfl w.heap.size 32 i0 (.agg #[.int .i64 0, .int .i64 0]) 2 16 Tryd.underlying22 hi hz0 hz1 hz2 rfl (by decide) _ _ _ rfl ((rowB hrow (AC.out (.int .i64 hh))).alloc _) ⟨w2.heap.size + 1, 0, none⟩ 1 1 [.int .i64 lo, .int .i64 hh] rfl rfl (cell_two_new _ _ _ _ (by simp [hz4])) (by simp [Value.oneCell']) b1 b2 (by have := (AC.out (.int .i64 hh)).size; simp [hz4] at this ⊢; omega) ?_; intro v' w3 hown' hgrow _; have AE := Aside0.mk (And.intro hown' hgrow); obtain ⟨g', cap', rfl⟩ := ownsRow_succ hown'; have hv1 := ((boxB h4 (AC.out (.int .i64 hh))).appended (by decide) (rowB hrow (AC.out (.int .i64 hh))) (Nat.le_trans b3 (AC.out (.int .i64 hh)).size) (Nat.le_add_right _ _) hown' hgrow).1; have hcv1 := hv1.cell; have hfv1 := hv1.frozen; clear hown' hgrow))
        all_goals first
          | exact rd_ret IA.out (AC.out _) (by unfold okD; rw [E1.out, E2.out, EB.out]; simp; omega)
          | exact rd_end IA.out (AC.out _) (by unfold okD; rw [E1.out, E2.out, EB.out]; simp; omega) (by unfold runD; rw [E1.out, E2.out]) h4 hrow AE.out.1 AE.out.2
          | (rename_i hq; exact rd_ret IA.out (AC.out _) (by unfold okD; rw [E1.out, E2.out, EB.out]; simp at hq ⊢; omega))
    case done =>
      rintro D ys W hD rfl hI hK2
      obtain ⟨v, h4, hrow⟩ := hI.row
      have hR := run_R W w.heap.size _ v _ hrow (by simp)
      obtain ⟨L, hL⟩ : ∃ L, (split s).map runD = L := ⟨_, rfl⟩
      rw [hL] at hR
      obtain ⟨A, c, hv, hc, hC⟩ := Kd.R_reads hR
      subst hv
      have hfit : Pure.Fit L := by
        have := spl_len (s.size + 1) s
        show L.length ≤ _
        rw [← hL, List.length_map]
        exact Nat.le_trans this (by omega)
      obtain ⟨k, hk⟩ := (Pure.isNorm_ev _ hfit).rounds
      have hlen : (split s).length = L.length := by rw [← hL, List.length_map]
      have hc4 := h4.cell
      have N1 := fun (w : World) (hr : Kd.C k32 w A L.length L) => span_IsNorm.calls k A c _ _ w hr hc hk
      clear hk hR
      have IA := Aside0.mk hI
      clear hI
      gi_wp2_with (refine ⟨trivial, ?_⟩; gi_at_call 12; refine (callsIn_wide.2 (N1 _ hC)).mono ?_; clear N1; rintro e W5 ⟨rfl, hb5⟩; have AB := Aside0.mk hb5; clear hb5; obtain ⟨hd1, hd2, hd3, hd4, hd5, hd6, hd7, hd8⟩ := (rd_facts AB.out IA.out.b0 IA.out.b1 h4))
      · rename_i hq
        have hn : Pure.normB (-1) L = false := by simpa using hq
        have e : readD s = ([], 17) := by unfold readD; rw [if_neg (by simpa using h), if_pos IA.out.ok, hL, if_neg (by rw [hn]; decide)]
        rw [e]
        exact rd_done IA.out AB.out hD hK2 z0 (g := none) (n := 0) (c := 0) (er := 17) [] (fun W' _ => Kd.R_nil _ _ _ _ _) rfl rfl
      · rename_i hq
        have hn : Pure.normB (-1) L = true := by simpa using hq
        have e : readD s = (L, 0) := by unfold readD; rw [if_neg (by simpa using h), if_pos IA.out.ok, hL, if_pos hn]
        rw [e]
        rw [hL, hlen] at hrow
        exact rd_done IA.out AB.out hD hK2 z0 (g := A) (n := L.length) (c := c) (er := 0) L (fun W' hk => run_R W' w.heap.size _ _ L (hk _ hrow) rfl) rfl rfl
    case stop =>
      rintro D c pre W hD hp hX hK2
      obtain rfl := hX.ret
      gi_wp2
      have hpu := hX.b0.kept (grownBy_putObj' W D (.deferred none)) (by intro e; cases e; omega)
      have hpv := hX.b1.kept (grownBy_putObj' W D (.deferred none)) (by intro e; cases e; omega)
      have hbad : readD s = ([], 17) := by
        obtain ⟨suf, hsuf⟩ := hp
        unfold readD
        rw [if_neg (by simpa using h), if_neg (by rw [← hsuf, List.all_append, hX.bad]; simp)]
      refine ⟨by simp, .inl ⟨_, _, rfl, run_takeDeferred hK2, ?_⟩⟩
      rw [hbad]
      exact ⟨_, results6 rfl rfl hpu.cell hpv.cell, _, rfl, Kd.R_nil _ _ _ _ _, hX.below.trans (belowK_b (w := W0) (by omega) W D _ _ hD hK2 rfl rfl)⟩
/-- The function as the printed texts call it. -/
def span_Read.f (a0 : ByteArray) : Option (List S32 × Int) := if a0.size < 4294967281 then some (readD a0) else none
theorem span_Read.calls (a0 : ByteArray) (r1 : List S32) (r2 : Int) (w : World) (hTabM : Aside0 (TabM w)) (h : span_Read.f a0 = some (r1, r2)) :
    Calls Tryd.prog 6 #[.string a0] w fun e w' => ∃ v0_ : Value, e = .returned (.tuple #[v0_, .int .i64 r2]) ∧ Kd.R k32 32 w' w.heap.size (fun _ => True) v0_ r1 ∧ Below w.heap.size w w' := by
  unfold span_Read.f at h
  by_cases hs : a0.size < 4294967281
  · rw [if_pos hs] at h
    injection h with h
    have e1 : (readD a0).1 = r1 := by rw [h]
    have e2 : (readD a0).2 = r2 := by rw [h]
    have := read_in a0 hs w hTabM.out
    rw [e1, e2] at this
    exact this
  · rw [if_neg hs] at h; cases h
end Go.Proofs.YtlmdcpooogaolaaDoor.G
