/- The law's calls, told by what they read: a list's cells. -/
import Derived.Test.YtmlfbgkaondljaaRns
namespace Go.Proofs.Ytmlfbgkaondljaa.G
open Go.RowKit Go.Proofs.YtmlfbgkaondljaaW.PrintWords Go.Proofs.YtmlfbgkaondljaaW.PrintLast Go.Proofs.YtmlfbgkaondljaaW.PrintMore
open Go.Proofs.Ytmlfbgkaondljaa.Pure (RF)
set_option linter.unusedVariables false
/-- A list that can be read. -/
def Rw (w : World) (A : Option Addr) (c : Nat) (l : List S28) : Prop := Kd.C k28 w A l.length l ∧ l.length ≤ c
theorem Rw.below {w w2 : World} {A : Option Addr} {c : Nat} {l : List S28} (h : Rw w A c l) (hb : Below w.heap.size w w2) : Rw w2 A c l := ⟨Kd.C_below h.1 hb, h.2⟩
theorem Rw.of {w : World} {base : Nat} {ok : Nat → Prop} {v : Value} {l : List S28} (h : Kd.R k28 28 w base ok v l) : ∃ A c, v = .slice A l.length c ∧ Rw w A c l := by
  obtain ⟨A, c, rfl⟩ := Kd.R_slice h
  exact ⟨A, c, rfl, (Kd.R_reads' h).2.2, (Kd.R_reads' h).2.1⟩
/-- What a call that answers a list leaves behind it. -/
def Ans (r : List S28) (w : World) (e : Ending) (w' : World) : Prop := ∃ A c, e = .returned (.slice A r.length c) ∧ Rw w' A c r ∧ Below w.heap.size w w'
theorem Ans.of {r : List S28} {w w' : World} {ok : Nat → Prop} {base : Nat} {v : Value} (h : Kd.R k28 28 w' base ok v r) (hb : Below w.heap.size w w') : Ans r w (.returned v) w' := by
  obtain ⟨A, c, rfl, hr⟩ := Rw.of h
  exact ⟨A, c, rfl, hr, hb⟩
theorem cMeet {a b r : List S28} (h : Ev (fun k => span_Meet.f k a b) r) {w : World} {A B : Option Addr} {ca cb : Nat} (ha : Rw w A ca a) (hb : Rw w B cb b) :
    Calls Try.prog 7 #[.slice A a.length ca, .slice B b.length cb] w (Ans r w) := by
  obtain ⟨k, hk⟩ := h.rounds
  refine (span_Meet.calls k A ca a B cb b r w ha.1 ha.2 hb.1 hb.2 hk).mono ?_
  rintro e w' ⟨v, rfl, ho, hw⟩
  exact Ans.of ho hw
theorem cMinus {a b r : List S28} (h : Ev (fun k => span_Minus.f k a b) r) {w : World} {A B : Option Addr} {ca cb : Nat} (ha : Rw w A ca a) (hb : Rw w B cb b) :
    Calls Try.prog 8 #[.slice A a.length ca, .slice B b.length cb] w (Ans r w) := by
  obtain ⟨k, hk⟩ := h.rounds
  refine (span_Minus.calls k A ca a B cb b r w ha.1 ha.2 hb.1 hb.2 hk).mono ?_
  rintro e w' ⟨v, rfl, ho, hw⟩
  exact Ans.of ho hw
theorem cNorm {a r : List S28} (h : Ev (fun k => span_Norm.f k a) r) {w : World} {A : Option Addr} {ca : Nat} (ha : Rw w A ca a) :
    Calls Try.prog 6 #[.slice A a.length ca] w (Ans r w) := by
  obtain ⟨k, hk⟩ := h.rounds
  refine (span_Norm.calls k (fun k_ => k_ < w.heap.size) A ca a r w (Kd.V_mk ha.2 (Kd.C_F k28_heap ha.1)) hk).mono ?_
  rintro e w' ⟨v, rfl, ho, hw⟩
  exact Ans.of ho hw
theorem cIsNorm {a : List S28} {r : Bool} (h : Ev (fun k => span_IsNorm.f k a) r) {w : World} {A : Option Addr} {ca : Nat} (ha : Rw w A ca a) :
    Calls Try.prog 9 #[.slice A a.length ca] w fun e w' => e = .returned (.bool r) ∧ Below w.heap.size w w' := by
  obtain ⟨k, hk⟩ := h.rounds
  exact span_IsNorm.calls k A ca a r w ha.1 ha.2 hk
theorem cSize {a : List S28} {r : Int} (h : Ev (fun k => span_Size.f k a) r) {w : World} {A : Option Addr} {ca : Nat} (ha : Rw w A ca a) :
    Calls Try.prog 11 #[.slice A a.length ca] w fun e w' => e = .returned (.int .i64 r) ∧ Below w.heap.size w w' := by
  obtain ⟨k, hk⟩ := h.rounds
  exact span_Size.calls k A ca a r w ha.1 ha.2 hk
theorem cHas {a : List S28} {n : Int} {r : Bool} (h : span_Has.f a n = some r) {w : World} {A : Option Addr} {ca : Nat} (ha : Rw w A ca a) :
    Calls Try.prog 10 #[.slice A a.length ca, .int .i64 n] w fun e w' => e = .returned (.bool r) ∧ Below w.heap.size w w' :=
  span_Has.calls A ca a n r w ha.1 ha.2 h
theorem cWithin {a b : List S28} {r : Bool} (h : Ev (fun k => span_Within.f k a b) r) {w : World} {A B : Option Addr} {ca cb : Nat} (ha : Rw w A ca a) (hb : Rw w B cb b) :
    Calls Try.prog 12 #[.slice A a.length ca, .slice B b.length cb] w fun e w' => e = .returned (.bool r) ∧ Below w.heap.size w w' := by
  obtain ⟨k, hk⟩ := h.rounds
  exact span_Within.calls k A ca a B cb b r w ha.1 ha.2 hb.1 hb.2 hk
theorem cSame {a b : List S28} {r : Bool} (h : Ev (fun k => barrowtop_sameRuns.f k a b) r) {w : World} {A B : Option Addr} {ca cb : Nat} (ha : Rw w A ca a) (hb : Rw w B cb b) :
    Calls Try.prog 4 #[.slice A a.length ca, .slice B b.length cb] w fun e w' => e = .returned (.bool r) ∧ Below w.heap.size w w' := by
  obtain ⟨k, hk⟩ := h.rounds
  refine (barrowtop_sameRuns.calls k A ca a B cb b r w ha.1 ha.2 hb.1 hb.2 hk).mono ?_
  rintro e w' ⟨he, hd⟩
  refine ⟨he, ?_⟩
  obtain ⟨m, rfl⟩ := hd
  exact pw_below_drewN (Below.refl _ _) m
theorem add_none (H n : Nat) : (⟨H, 0, none⟩ : Addr).add n = ⟨H, n, none⟩ := by
  cases n with
  | zero => simp [Addr.add]
  | succ n => simp [Addr.add]
theorem lists_of_block {w : World} {H : Nat} {vs : List Value} (hb : w.heap[H]? = some (.cells vs.toArray 22 (0, 0))) {L : List (List S28)} (hl : L.length = vs.length) (hn : L.length ≤ 1000)
    (h : ∀ (j : Nat) (x : List S28) (v : Value), L[j]? = some x → vs[j]? = some v → ∃ A c, v = Value.slice A x.length c ∧ Rw w A c x) : Kd.C (Kd.slice 28 k28) w (some ⟨H, 0, none⟩) L.length L := by
  refine ⟨rfl, by omega, fun _ => ⟨_, rfl, fun j x hj => ?_⟩⟩
  have hjl : j < vs.length := by rw [← hl]; exact (List.getElem?_eq_some_iff.1 hj).1
  obtain ⟨A, c, hv, hr⟩ := h j x vs[j] hj (List.getElem?_eq_getElem hjl)
  refine ⟨[.slice A x.length c], rfl, ⟨A, c, rfl, hr.2, hr.1⟩, fun i u hi => ?_⟩
  have hi0 : i = 0 := by
    have := (List.getElem?_eq_some_iff.1 hi).1
    simp at this
    exact this
  subst hi0
  simp only [List.getElem?_cons_zero, Option.some.injEq] at hi
  subst hi
  have hc := blk_cell hb (j * 1 + 0)
  rw [add_none, show (Kd.slice 28 k28).sz = 1 from rfl, hc]
  simp only [Nat.mul_one, Nat.add_zero, List.getElem?_toArray]
  rw [List.getElem?_eq_getElem hjl, hv]
theorem cUnion2 {a b r : List S28} (h : Ev (fun k => span_Union.f k [a, b]) r) {w : World} {A B : Option Addr} {ca cb H : Nat} (hb : w.heap[H]? = some (.cells #[.slice A a.length ca, .slice B b.length cb] 22 (0, 0))) (ha : Rw w A ca a) (hb2 : Rw w B cb b) :
    Calls Try.prog 5 #[.slice (some ⟨H, 0, none⟩) 2 2] w (Ans r w) := by
  obtain ⟨k, hk⟩ := h.rounds
  have hC : Kd.C (Kd.slice 28 k28) w (some ⟨H, 0, none⟩) ([a, b] : List (List S28)).length [a, b] := by
    refine lists_of_block (vs := [.slice A a.length ca, .slice B b.length cb]) hb rfl (by simp) ?_
    intro j x v hj hv
    rcases j with _ | _ | j
    · simp at hj hv; subst hj hv; exact ⟨_, _, rfl, ha⟩
    · simp at hj hv; subst hj hv; exact ⟨_, _, rfl, hb2⟩
    · simp at hj
  refine (span_Union.calls k (some ⟨H, 0, none⟩) _ _ r w hC (Nat.le_refl _) hk).mono ?_
  rintro e w' ⟨v, rfl, ho, hw⟩
  exact Ans.of ho hw
theorem cUnion3 {a b c r : List S28} (h : Ev (fun k => span_Union.f k [a, b, c]) r) {w : World} {A B C : Option Addr} {ca cb cc H : Nat} (hb : w.heap[H]? = some (.cells #[.slice A a.length ca, .slice B b.length cb, .slice C c.length cc] 22 (0, 0))) (ha : Rw w A ca a) (hb2 : Rw w B cb b) (hc2 : Rw w C cc c) :
    Calls Try.prog 5 #[.slice (some ⟨H, 0, none⟩) 3 3] w (Ans r w) := by
  obtain ⟨k, hk⟩ := h.rounds
  have hC : Kd.C (Kd.slice 28 k28) w (some ⟨H, 0, none⟩) ([a, b, c] : List (List S28)).length [a, b, c] := by
    refine lists_of_block (vs := [.slice A a.length ca, .slice B b.length cb, .slice C c.length cc]) hb rfl (by simp) ?_
    intro j x v hj hv
    rcases j with _ | _ | _ | j
    · simp at hj hv; subst hj hv; exact ⟨_, _, rfl, ha⟩
    · simp at hj hv; subst hj hv; exact ⟨_, _, rfl, hb2⟩
    · simp at hj hv; subst hj hv; exact ⟨_, _, rfl, hc2⟩
    · simp at hj
  refine (span_Union.calls k (some ⟨H, 0, none⟩) _ _ r w hC (Nat.le_refl _) hk).mono ?_
  rintro e w' ⟨v, rfl, ho, hw⟩
  exact Ans.of ho hw
/-- Small lists told by their block. -/
theorem row1_of_block {w : World} {H : Nat} {x0 x1 : Int} (hb : w.heap[H]? = some (.cells #[.int .i64 x0, .int .i64 x1] 28 (0, 0))) : Rw w (some ⟨H, 0, none⟩) 1 [⟨x0, x1⟩] := by
  refine ⟨⟨rfl, by simp, fun _ => ⟨_, rfl, fun j x hj => ?_⟩⟩, by simp⟩
  rcases j with _ | j
  · simp at hj
    subst hj
    refine ⟨[.int .i64 x0, .int .i64 x1], rfl, k28_mkM w 0 (fun _ => True) ⟨x0, x1⟩, fun i u hi => ?_⟩
    have hc := blk_cell hb i
    rw [add_none, show 0 * k28.sz + i = i by simp, hc, ← hi]
    simp
  · simp at hj
theorem row2_of_block {w : World} {H : Nat} {x0 x1 y0 y1 : Int} (hb : w.heap[H]? = some (.cells #[.int .i64 x0, .int .i64 x1, .int .i64 y0, .int .i64 y1] 28 (0, 0))) : Rw w (some ⟨H, 0, none⟩) 2 [⟨x0, x1⟩, ⟨y0, y1⟩] := by
  refine ⟨⟨rfl, by simp, fun _ => ⟨_, rfl, fun j x hj => ?_⟩⟩, by simp⟩
  rcases j with _ | _ | j
  · simp at hj
    subst hj
    refine ⟨[.int .i64 x0, .int .i64 x1], rfl, k28_mkM w 0 (fun _ => True) ⟨x0, x1⟩, fun i u hi => ?_⟩
    have hc := blk_cell hb i
    rw [add_none, show 0 * k28.sz + i = i by simp, hc, ← hi]
    have := (List.getElem?_eq_some_iff.1 hi).1
    rcases i with _ | _ | i
    · rfl
    · rfl
    · exact absurd (show i + 1 + 1 < 2 from this) (by omega)
  · simp at hj
    subst hj
    refine ⟨[.int .i64 y0, .int .i64 y1], rfl, k28_mkM w 0 (fun _ => True) ⟨y0, y1⟩, fun i u hi => ?_⟩
    have hc := blk_cell hb (2 + i)
    rw [add_none, show (0 + 1) * k28.sz + i = 2 + i by simp [show k28.sz = 2 from rfl], hc, ← hi]
    have := (List.getElem?_eq_some_iff.1 hi).1
    rcases i with _ | _ | i
    · rfl
    · rfl
    · exact absurd (show i + 1 + 1 < 2 from this) (by omega)
  · simp at hj
/-- What lies in memory: the parameter's box and the lists made so far. -/
structure KT (w0 : World) (g : Nat) (cs : Array Value) (rows : List (Option Addr × Nat × List S28)) (w : World) : Prop where
  bx : w.heap[g]? = some (.cells cs 24 (0, 0))
  rs : ∀ r ∈ rows, Rw w r.1 r.2.1 r.2.2
  bw : Below w0.heap.size w0 w
theorem KT.below {w0 w w2 : World} {g : Nat} {cs : Array Value} {rows : List (Option Addr × Nat × List S28)} (h : KT w0 g cs rows w) (hb : Below w.heap.size w w2) : KT w0 g cs rows w2 :=
  ⟨blk_below h.bx hb, fun r hr => (h.rs r hr).below hb, below_step h.bw hb⟩
theorem KT.push {w0 w : World} {g : Nat} {cs : Array Value} {rows : List (Option Addr × Nat × List S28)} {A : Option Addr} {c : Nat} {l : List S28} (h : KT w0 g cs rows w) (hr : Rw w A c l) : KT w0 g cs ((A, c, l) :: rows) w :=
  ⟨h.bx, fun r hm => by rcases List.mem_cons.1 hm with e | e; (· subst e; exact hr); (· exact h.rs r e), h.bw⟩
theorem KT.alloc {w0 w : World} {g : Nat} {cs : Array Value} {rows : List (Option Addr × Nat × List S28)} (h : KT w0 g cs rows w) (o : Obj) : KT w0 g cs rows (w.alloc o) := h.below (below_alloc (Below.refl _ _) o)
theorem KT.drew {w0 w : World} {g : Nat} {cs : Array Value} {rows : List (Option Addr × Nat × List S28)} (h : KT w0 g cs rows w) : KT w0 g cs rows w.drew := h.below (below_drew (Below.refl _ _))
theorem KT.get {w0 w : World} {g : Nat} {cs : Array Value} {rows : List (Option Addr × Nat × List S28)} {A : Option Addr} {c : Nat} {l : List S28} (h : KT w0 g cs rows w) (hm : (A, c, l) ∈ rows) : Rw w A c l := h.rs _ hm
end Go.Proofs.Ytmlfbgkaondljaa.G
