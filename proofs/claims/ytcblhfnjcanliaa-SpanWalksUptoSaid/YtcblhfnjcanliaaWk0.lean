/- span.Walk's iterator: it hands over the numbers of its runs, in their order, for every loop body that leaves all cells but one block as they lie. -/
import Derived.Test.YtcblhfnjcanliaaWkP
import Derived.Test.YtcblhfnjcanliaaGx9
import Derived.RangeFuncNested
import Derived.RangeFuncBound
import Derived.RangeFuncCalls
import Derived.RangeFuncLeaves
import Derived.Shelf.Abstract
import Derived.WalkKit
import Derived.OwnWalkIn
import Derived.TacticsInMore
import Derived.LoopNIn
import Derived.LoopIn
namespace Go.Proofs.Ytcblhfnjcanliaa.G
open Go.RowKit Go.Proofs.YtcblhfnjcanliaaW.PrintWords Go.Proofs.YtcblhfnjcanliaaW.PrintLast Go.Proofs.YtcblhfnjcanliaaW.PrintMore
open Go.Proofs.Ytcblhfnjcanliaa.Pure
set_option linter.unusedVariables false
attribute [local go_sem] Oper.semAt_some
theorem wrap64_small {x : Int} (h0 : -4000000000 ≤ x) (h1 : x ≤ 4000000000) : wrap64 x = x := by unfold wrap64; omega
/-- Every cell but those of block b lies as it lay. -/
def KpC (b : Nat) (W W' : World) : Prop := W.heap.size ≤ W'.heap.size ∧ ∀ k o, W.heap[k]? = some o → o.isCells = true → k ≠ b → W'.heap[k]? = some o
theorem KpC.refl (b : Nat) (W : World) : KpC b W W := ⟨Nat.le_refl _, fun _ _ h _ _ => h⟩
theorem KpC.trans {b : Nat} {A B C : World} (h : KpC b A B) (k : KpC b B C) : KpC b A C := ⟨Nat.le_trans h.1 k.1, fun i o hi ho hb => k.2 i o (h.2 i o hi ho hb) ho hb⟩
theorem KpC.put (b : Nat) (W : World) (l : Nat) (o o' : Obj) (hl : W.heap[l]? = some o) (ho : o.isCells = false) : KpC b W (W.putObj l o') :=
  ⟨by simp, fun k u hk hu _ => by
    have : k ≠ l := fun e => by subst e; rw [hl] at hk; cases hk; rw [ho] at hu; cases hu
    exact (World.putObj_heap_other this).trans hk⟩
theorem KpC.grown {b : Nat} {W W' : World} {row : Option Nat} (h : W.grownBy W' row) (hr : ∀ r, row = some r → r = b ∨ ∃ o : Obj, W.heap[r]? = some o ∧ o.isCells = false) : KpC b W W' :=
  ⟨h.size, fun k o hk ho hb => (h.block k (Array.getElem?_eq_some_iff.1 hk).1 (fun e => by
    rcases hr k e.symm with e2 | ⟨o', h1, h2⟩
    · exact hb e2
    · rw [hk] at h1; cases h1; rw [ho] at h2; cases h2)).trans hk⟩
theorem cells_of_cell {W : World} {p : Addr} {v : Value} (h : W.cell? p = some v) : ∃ o, W.heap[p.block]? = some o ∧ o.isCells = true := by
  unfold World.cell? at h
  split at h
  · rename_i c e f heq; exact ⟨_, heq, rfl⟩
  · cases h
theorem KpC.cell {b : Nat} {W W' : World} {p : Addr} {v : Value} (hk : KpC b W W') (h : W.cell? p = some v) (hp : p.block ≠ b) : W'.cell? p = some v := by
  obtain ⟨o, ho, hc⟩ := cells_of_cell h
  have := hk.2 _ o ho hc hp
  unfold World.cell? at h ⊢
  rw [this]; rw [ho] at h; exact h
theorem KpC.boxed {b B : Nat} {t : TypeId} {W W' : World} {v : Value} (hk : KpC b W W') (h : Boxed W B t v) (hp : B ≠ b) : Boxed W' B t v := hk.2 B _ h rfl hp
/-- The runs, cell by cell. -/
def Cells24 (w : World) (A : Option Addr) (l : List S24) : Prop := ∀ pre r suf, l = pre ++ r :: suf → ∃ ad, A = some ad ∧ w.cell? (ad.add (pre.length * 2)) = some (.int .i64 r.f0) ∧ w.cell? ⟨(ad.add (pre.length * 2)).block, (ad.add (pre.length * 2)).off + 1, none⟩ = some (.int .i64 r.f1)
theorem Cells24.of {w : World} {A : Option Addr} {l : List S24} (h : Kd.C k24 w A l.length l) : Cells24 w A l := by
  intro pre r suf hl
  obtain ⟨ad, e, h0, h1⟩ := at_T24 h (pre.length : Int) (by omega) (by rw [hl]; simp; omega)
  have hr : rd_T24 l (pre.length : Int) = r := by rw [hl]; exact rdT pre suf r
  rw [hr] at h0 h1
  rw [Int.toNat_natCast] at h0 h1
  exact ⟨ad, e, h0, h1⟩
theorem add_block (ad : Addr) (n : Nat) : (ad.add n).block = ad.block := by unfold Addr.add; split <;> rfl
theorem cell_same {w w' : World} {p : Addr} (h : w'.heap[p.block]? = w.heap[p.block]?) : w'.cell? p = w.cell? p := by unfold World.cell?; rw [h]
theorem Cells24.move {w w' : World} {A : Option Addr} {l : List S24} (h : Cells24 w A l) (hm : ∀ ad, A = some ad → w'.heap[ad.block]? = w.heap[ad.block]?) : Cells24 w' A l := by
  intro pre r suf hl
  obtain ⟨ad, e, h0, h1⟩ := h pre r suf hl
  have hm' := hm ad e
  exact ⟨ad, e, (cell_same (by rw [add_block]; exact hm')).trans h0, (cell_same (by simpa [add_block] using hm')).trans h1⟩
/-- What the iterator reads: its own box and the runs. -/
structure Wr (w : World) (b B : Nat) (A : Option Addr) (c : Nat) (l : List S24) : Prop where
  norm : Norm l
  box : Boxed w B 22 (.slice A l.length c)
  hB : B ≠ b
  hb : b < w.heap.size
  row : Cells24 w A l
  hA : ∀ ad, A = some ad → ad.block ≠ b
theorem Wr.at {w W : World} {b B : Nat} {A : Option Addr} {c : Nat} {l : List S24} (h : Wr w b B A c l) (hk : KpC b w W) {pre suf : List S24} {r : S24} (hl : l = pre ++ r :: suf) :
    ∃ ad, A = some ad ∧ W.cell? (ad.add (pre.length * 2)) = some (.int .i64 r.f0) ∧ W.cell? ⟨(ad.add (pre.length * 2)).block, (ad.add (pre.length * 2)).off + 1, none⟩ = some (.int .i64 r.f1) := by
  obtain ⟨ad, e, h0, h1⟩ := h.row pre r suf hl
  have hne := h.hA ad e
  exact ⟨ad, e, hk.cell h0 (by rw [add_block]; exact hne), hk.cell h1 (by simpa [add_block] using hne)⟩
set_option maxHeartbeats 4000000 in
set_option maxRecDepth 100000 in
theorem walk_stops (F : Fence) (n : Nat) (h8 : F.fn 8) (hro : F.round = none) (hn : 1 ≤ n) {w : World} {b B : Nat} {A : Option Addr} {c : Nat} {l : List S24} (hw : Wr w b B A c l) :
    SeqStopsK F n Try.prog 8 #[.pointer (some ⟨B, 0, none⟩)] (fun x : Int => #[.int .i64 x]) (KpC b) (fun xs => xs = numsOf l) (fun pre => pre <+: numsOf l) (numsOf l).length w := by
  intro lp J Jx W hW hJ hJx hY h0
  refine callsIn_of_wp Try.func8 rfl h8 ?_ hro
  simp only [Try.ntmps8, List.size_toArray, List.length_cons, List.length_nil, Nat.reduceAdd, Nat.reduceSub, Array.replicate_succ, Array.replicate_zero, List.push_toArray, List.append_toArray, List.nil_append, List.cons_append]
  have hk0 : KpC b w W := ⟨hW.size, fun k o hk _ _ => (hW.block k (Array.getElem?_eq_some_iff.1 hk).1).trans hk⟩
  have hbox : Boxed W B 22 (.slice A l.length c) := hk0.boxed hw.box hw.hB
  have hcell := hbox.cell
  gi_wp2
  gi_loopw [8] (fun p wr => ∃ pre suf, l = pre ++ suf ∧ p = .int .i64 (pre.length : Int) ∧ J (numsOf pre) wr ∧ KpC b w wr) (fun p _ => l.length - (intOf p).toNat)
  case atStart =>
    exact ⟨[], l, rfl, rfl, h0, hk0⟩
  case round =>
    obtain ⟨pre, suf, hl, rfl, hJs, hks⟩ := hrel
    cases suf with
    | nil =>
      have hlen : ¬ (pre.length : Int) < (l.length : Int) := by rw [hl]; simp
      gi_wp2
      go_end0
      have e : l = pre := by rw [hl]; simp
      exact ⟨⟨_, rfl⟩, .inl hJs⟩
    | cons r suf =>
      have hlt : (pre.length : Int) < (l.length : Int) := by rw [hl]; simp; omega
      obtain ⟨ad, rfl, c0, c1⟩ := hw.at hks hl
      have hp0 : (0 : Int) ≤ (pre.length : Int) := by omega
      have hltT : ((pre.length : Int) < (l.length : Int)) = True := eq_true hlt
      have hpl : pre.length < l.length := by omega
      obtain ⟨b1, b2, b3⟩ := normFrom_mem (by omega) hw.norm r (by rw [hl]; simp)
      have hne : wr.heap.size ≠ b := by have := hks.1; have := hw.hb; omega
      have HL := Aside0.mk hl
      clear hl
      rename World => wo
      gi_wp2
      gi_loopw [5] (fun p wq => ∃ m : Nat, p = .int .i64 (r.f0 + (m : Int)) ∧ m ≤ cnt r ∧ J (numsOf pre ++ rng r.f0 m) wq ∧ KpC b w wq ∧ wq.cell? ⟨wo.heap.size, 1, none⟩ = some (.int .i64 r.f1)) (fun p _ => (r.f1 + 1 - intOf p).toNat)
      case atStart =>
        refine ⟨0, by simp, by omega, ?_, ?_, ?_⟩
        · simp only [rng, List.append_nil]
          exact hJ _ _ _ none hJs (World.grownBy_alloc _ _ none) (fun r e => by cases e)
        · exact hks.trans (KpC.grown (World.grownBy_alloc _ _ none) (fun r e => by cases e))
        · simp
      case round =>
        obtain ⟨m, rfl, hm, hJ2, hk2, hc2⟩ := hrel
        by_cases hmm : m < cnt r
        · have hle : r.f0 + (m : Int) ≤ r.f1 := by unfold cnt at hmm; omega
          have hpre := numsOf_upto HL.out hmm
          obtain ⟨fn, tmps, assign, body, hy, hR⟩ := hY (numsOf pre ++ rng r.f0 m) (r.f0 + (m : Int)) wr hJ2 (by have := hpre.length_le; simp only [List.length_append, List.length_cons, List.length_nil] at this; simp only [List.length_append]; omega)
          gi_wp2
          refine hR.mono ?_
          rintro e W3 (⟨rfl, hJ3, hk3⟩ | ⟨rfl, hJx3⟩)
          · gi_wp2
            go_roundw
            case rel => exact ⟨m + 1, by push_cast; congr 1; omega, by omega, by rw [rng_snoc, ← List.append_assoc]; exact hJ3, hk2.trans hk3, hk3.cell hc2 hne⟩
            case measure => simp only [intOf]; omega
          · gi_wp2
            refine bodyPost_ret (results_none rfl _ _ _) rfl ?_
            exact ⟨⟨_, rfl⟩, .inr ⟨_, hpre, hJx3⟩⟩
        · have hme : m = cnt r := by omega
          have hle : ¬ r.f0 + (m : Int) ≤ r.f1 := by unfold cnt at hme; omega
          gi_wp2
          go_roundw
          case rel => exact ⟨pre ++ [r], suf, by simp [HL.out], by simp; exact wrap64_small (by omega) (by have := hw.norm.len; omega), by rw [← numsOf_all HL.out, ← hme]; exact hJ2, hk2⟩
          case measure =>
            rw [wrap64_small (by omega) (by have := hw.norm.len; omega)]
            simp only [intOf]
            omega
/-- What Walk's answer captures. -/
structure Wk (w0 w : World) (B : Nat) (A : Option Addr) (c : Nat) (l : List S24) : Prop where
  box : Boxed w B 22 (.slice A l.length c)
  hB : w0.heap.size ≤ B
  row : Kd.C k24 w A l.length l
  hA : ∀ ad, A = some ad → w0.heap.size ≤ ad.block ∧ ad.block < w.heap.size
set_option maxHeartbeats 1000000 in
theorem span_Walk.calls {A : Option Addr} {c : Nat} {a : List S24} {w : World} (hr : Kd.C k24 w A a.length a) (hc : a.length ≤ c) (hl : a.length ≤ 8796093022208) :
    Calls Try.prog 5 #[.slice A a.length c] w fun e w' => ∃ B A' c', e = .returned (.func (.func 8) #[] #[.pointer (some ⟨B, 0, none⟩)]) ∧ Wk w w' B A' c' (canon a) ∧ Below w.heap.size w w' := by
  obtain ⟨k, hk⟩ := (norm_ev a hl).rounds
  have hV : Kd.V k24 24 w w.heap.size (fun k_ => k_ < w.heap.size) (.slice A a.length c) a := Kd.V_mk hc (Kd.C_F k24_heap hr)
  have hcon := span_Norm.calls k (fun k_ => k_ < w.heap.size) A c a (canon a) w hV hk
  have HC := Aside0.mk hcon
  clear hcon hV hk
  go_enter Try.func5, Try.ntmps5
  go_wp2_with (go_at_call 7; refine HC.out.mono ?_; rintro e w' ⟨v, rfl, hR, hbb⟩; obtain ⟨A', c', rfl⟩ := Kd.R_slice hR)
  go_ret
  refine ⟨w'.heap.size, A', c', rfl, ⟨Boxed.new w' 22 _, hbb.size, Kd.C_alloc (Kd.R_reads' hR).2.2 _, fun ad e => ?_⟩, hbb.alloc hbb.size _⟩
  subst e
  exact ⟨hR.1 _ rfl, by have := Kd.R_lt hR _ rfl; simp; omega⟩
end Go.Proofs.Ytcblhfnjcanliaa.G
