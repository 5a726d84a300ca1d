/- GoodsSortHolds: what lies in memory while it runs. -/
import Derived.Test.YthkpmldjbogngaaDoorPlh
import Derived.Test.YthkpmldjbogngaaDoorHld
import Derived.Test.YthkpmldjbogngaaDoorApC
namespace Go.Proofs.YthkpmldjbogngaaDoor.S
open Go.RowKit Go.Proofs.YthkpmldjbogngaaDoorW.PrintWords Go.Proofs.YthkpmldjbogngaaDoorW.PrintLast Go.Proofs.YthkpmldjbogngaaDoorW.PrintMore
set_option linter.unusedVariables false
theorem own_C {w : World} {b n C : Nat} {A : Option Addr} {l : List ByteArray} (h : w.ownsRow b 9 1 (.slice A n C) n (l.map Value.string)) : l.length = n ∧ n ≤ C ∧ Kd.C Kd.string w A l.length l := by
  have hl : l.length = n := by have := h.1; simpa using this
  subst hl
  have h1 : Kd.R Kd.string 9 w b (fun _ => True) (.slice A l.length C) l := ⟨fun _ _ => trivial, l.map Value.string, h, str_reps _ _ _ _⟩
  obtain ⟨_, h2, h3⟩ := Kd.R_reads' h1
  exact ⟨rfl, h2, h3⟩
theorem own_at2 {w : World} {b n C g : Nat} {l : List ByteArray} (h : w.ownsRow b 9 1 (.slice (some ⟨g, 0, none⟩) n C) n (l.map Value.string)) (i : Nat) (hi : i < n) :
    w.cell? ⟨g, i, none⟩ = some (.string (l.getD i ByteArray.empty)) ∧ w.frozen? ⟨g, i, none⟩ = false := by
  have hl : l.length = n := by have := h.1; simpa using this
  refine ⟨?_, h.frozenAt i⟩
  rw [h.cellAt i (by omega), List.getElem?_map, List.getElem?_eq_getElem (by omega), List.getD_eq_getElem?_getD, List.getElem?_eq_getElem (by omega)]
  rfl
theorem own_sets {w : World} {b n C g : Nat} {l : List ByteArray} (h : w.ownsRow b 9 1 (.slice (some ⟨g, 0, none⟩) n C) n (l.map Value.string)) (i : Nat) (s : ByteArray) :
    (w.setCell ⟨g, i, none⟩ (.string s)).ownsRow b 9 1 (.slice (some ⟨g, 0, none⟩) n C) n ((l.set i s).map Value.string) ∧ w.grownBy (w.setCell ⟨g, i, none⟩ (.string s)) (some g) := by
  rw [List.map_set]
  exact h.stored i (.string s)
structure MF (w0 : World) (gf n : Nat) (xf : List ByteArray) (w : World) : Prop where
  bw : Below w0.heap.size w0 w
  rf : w.ownsRow w0.heap.size 9 1 (.slice (some ⟨gf, 0, none⟩) n n) n (xf.map Value.string)
theorem MF.below {w0 w w2 : World} {gf n : Nat} {xf : List ByteArray} (h : MF w0 gf n xf w) (hb : Below w.heap.size w w2) : MF w0 gf n xf w2 := ⟨below_step h.bw hb, pw_own_below h.rf hb⟩
theorem MF.store {w0 w : World} {gf n : Nat} {xf : List ByteArray} (h : MF w0 gf n xf w) (i : Nat) (s : ByteArray) : MF w0 gf n (xf.set i s) (w.setCell ⟨gf, i, none⟩ (.string s)) :=
  ⟨h.bw.grown (own_sets h.rf i s).2 h.bw.size (fun b e => by cases e; exact own_base h.rf gf rfl), (own_sets h.rf i s).1⟩
theorem MF.len {w0 w : World} {gf n : Nat} {xf : List ByteArray} (h : MF w0 gf n xf w) : xf.length = n := by have := h.rf.1; simpa using this
/-- One of the answers. -/
structure MR (w0 : World) (A : Option Addr) (C : Nat) (r : List ByteArray) (w : World) : Prop where
  ro : w.ownsRow w0.heap.size 9 1 (.slice A r.length C) r.length (r.map Value.string)
theorem MR.below {w0 w w2 : World} {A : Option Addr} {C : Nat} {r : List ByteArray} (h : MR w0 A C r w) (hb : Below w.heap.size w w2) : MR w0 A C r w2 := ⟨pw_own_below h.ro hb⟩
def Far (A : Option Addr) (g : Nat) : Prop := ∀ ad, A = some ad → ad.block ≠ g
theorem MR.store {w0 w : World} {A : Option Addr} {C : Nat} {r : List ByteArray} (h : MR w0 A C r w) {g : Nat} (hf : Far A g) (i : Nat) (u : Value) : MR w0 A C r (w.setCell ⟨g, i, none⟩ u) := by
  refine ⟨own_setCell h.ro (fun e => ?_) u⟩
  cases A with
  | none => simp [Value.ownBlock] at e
  | some ad =>
    have : g = ad.block := by simpa [Value.ownBlock] using e
    exact hf ad rfl this.symm
theorem MR.far {w1 w : World} {A : Option Addr} {C : Nat} {r : List ByteArray} (h : w.ownsRow w1.heap.size 9 1 (.slice A r.length C) r.length (r.map Value.string)) {g : Nat} (hg : g < w1.heap.size) : Far A g := by
  intro ad e e2
  subst e
  have := own_base h ad.block rfl
  omega
theorem MR.C {w0 w : World} {A : Option Addr} {C : Nat} {r : List ByteArray} (h : MR w0 A C r w) : Kd.C Kd.string w A r.length r := (own_C h.ro).2.2
theorem set_app {l xs : List ByteArray} {i : Nat} {x : ByteArray} (h : ∀ p, p < i → xs[p]? = l[p]?) (hi : i < xs.length) (hx : l[i]? = some x) : ∀ p, p < i + 1 → (xs.set i x)[p]? = l[p]? := by
  intro p hp
  by_cases e : p = i
  · subst e; rw [List.getElem?_set_self hi, hx]
  · rw [List.getElem?_set_ne (by omega)]; exact h p (by omega)
theorem getD_some {l : List ByteArray} {i : Nat} (h : i < l.length) : l[i]? = some (l.getD i ByteArray.empty) := by
  rw [List.getD_eq_getElem?_getD, List.getElem?_eq_getElem h]; rfl
theorem fill_eq {l xf : List ByteArray} {s : ByteArray} (hl : xf.length = l.length + 20) (h1 : ∀ p, p < l.length → xf[p]? = l[p]?) (h2 : ∀ p, l.length ≤ p → p < l.length + 20 → xf[p]? = some s) : xf = l ++ List.replicate 20 s := by
  apply List.ext_getElem?
  intro p
  by_cases hp : p < l.length
  · rw [h1 p hp, List.getElem?_append_left hp]
  · rw [List.getElem?_append_right (by omega), List.getElem?_replicate]
    by_cases hp2 : p < l.length + 20
    · rw [h2 p (by omega) hp2, if_pos (by omega)]
    · rw [List.getElem?_eq_none (by omega), if_neg (by omega)]
theorem in_own {w : World} {b g : Nat} {l m : List ByteArray} {k : Nat} (h : w.ownsRow b 9 1 (.slice (some ⟨g, 0, none⟩) (l.length + k) (l.length + k)) (l.length + k) ((l ++ m).map Value.string)) :
    w.ownsRow b 9 1 (.slice (some ⟨g, 0, none⟩) l.length (l.length + k)) l.length (l.map Value.string) := by
  have := own_take h (Nat.le_add_right l.length k)
  rw [Nat.mul_one, List.map_append, List.take_left' (by rw [List.length_map])] at this
  exact this
theorem getD_l {l m : List ByteArray} {i : Nat} (h : i < l.length) : (l ++ m).getD i ByteArray.empty = l.getD i ByteArray.empty := by
  rw [List.getD_eq_getElem?_getD, List.getElem?_append_left h, List.getD_eq_getElem?_getD]
theorem getD_r {l : List ByteArray} {i k : Nat} {s : ByteArray} (h : l.length ≤ i) (h2 : i < l.length + k) : (l ++ List.replicate k s).getD i ByteArray.empty = s := by
  rw [List.getD_eq_getElem?_getD, List.getElem?_append_right h, List.getElem?_replicate, if_pos (by omega)]; rfl
theorem in_own2 {w : World} {b g n k : Nat} {xf : List ByteArray} {s : ByteArray} (h : w.ownsRow b 9 1 (.slice (some ⟨g, 0, none⟩) (n + k) (n + k)) (n + k) (xf.map Value.string)) (hx : ∀ p, p < n → xf[p]? = some s) :
    w.ownsRow b 9 1 (.slice (some ⟨g, 0, none⟩) n (n + k)) n ((List.replicate n s).map Value.string) := by
  have hl : xf.length = n + k := by have := h.1; simpa using this
  have := own_take h (Nat.le_add_right n k)
  rw [Nat.mul_one, ← List.map_take] at this
  have e : xf.take n = List.replicate n s := rep_of (by rw [List.length_take]; omega) (fun p hp => by rw [List.getElem?_take_of_lt hp]; exact hx p hp)
  rw [e] at this
  exact this
theorem below_of_grown0 {W W' : World} (h : W.grownBy W' none) : Below W.heap.size W W' := ⟨h.os, h.tape, h.output, h.size, fun k hk => h.block k hk (by simp)⟩
theorem new_far {w : World} {b n C : Nat} {A : Option Addr} {xs : List Value} {v : Value} (h : w.ownsRow b 9 1 (.slice A n C) n xs) (hn : ∃ b, v.ownBlock = some b ∧ w.heap.size ≤ b) : ∀ ad, A = some ad → some ad.block ≠ v.ownBlock := by
  intro ad e e2
  obtain ⟨k, h1, h2⟩ := hn
  have h3 := own_lt h ad.block (by rw [e]; rfl)
  rw [h1] at e2
  injection e2 with e2
  omega
theorem MR.grown {w0 w w' : World} {A : Option Addr} {C : Nat} {r : List ByteArray} (h : MR w0 A C r w) {row : Option Nat} (hg : w.grownBy w' row) (hf : ∀ ad, A = some ad → some ad.block ≠ row) : MR w0 A C r w' := by
  refine ⟨h.ro.kept hg ?_⟩
  cases A with
  | none => left; rfl
  | some ad => right; exact hf ad rfl
theorem MF.grown {w0 w w' : World} {gf n : Nat} {xf : List ByteArray} (h : MF w0 gf n xf w) {row : Option Nat} (hg : w.grownBy w' row) (hf : some gf ≠ row) (hb : Below w0.heap.size w0 w') : MF w0 gf n xf w' :=
  ⟨hb, h.rf.kept hg (.inr hf)⟩
theorem slit_event {P : Program} {ops : Array Oper} {rest : List Oper} {o : Oper} {a : Act} {Q : Exit → Act → World → Prop} {W : World} (hgd : o.guard = none) {N : Tmp} (_hd : o.dst = some N) {cs : List Value} {e n : Nat}
    (hr : (execOp a.eval o).run P W = .ok (.value (.slice (some ⟨W.heap.size, 0, none⟩) n n)) (W.alloc (.cells cs.toArray e)))
    (h : ∀ g w1, g = W.heap.size → w1.heap[g]? = some (.cells cs.toArray e (0, 0)) → Below W.heap.size W w1 → wpList P ops Q rest (a.put o.dst (.slice (some ⟨g, 0, none⟩) n n)) w1) : wpList P ops Q (o :: rest) a W :=
  Kd.event_run hgd hr (h _ _ rfl (blk_new _ _) (below_alloc (Below.refl _ _) _))
def sel4 {α : Type} (a b c d : α) : Nat → α
  | 0 => a
  | 1 => b
  | 2 => c
  | _ => d
def Apt (a b : Option Addr) : Prop := ∀ g, a = some ⟨g, 0, none⟩ → b ≠ some ⟨g, 0, none⟩
theorem Apt.symm {a b : Option Addr} (h : Apt a b) : Apt b a := fun g e e2 => h g e2 e
theorem Apt.of {a b : Option Addr} (h : ∀ g, a = some ⟨g, 0, none⟩ → Far b g) : Apt a b := fun g e e2 => h g e _ e2 rfl
theorem Apt.far {b : Option Addr} {g : Nat} (h : Far b g) : Apt b (some ⟨g, 0, none⟩) := fun k e e2 => by
  injection e2 with e2
  injection e2 with e2
  subst e2
  exact h _ e rfl
theorem st4 {a b c : Option Addr} {g n nc Ca Cb Cc n3 : Nat} (h1 : Apt a b) (h2 : Apt a c) (h3 : Apt b c) (h4 : Far a g) (h5 : Far b g) (h6 : Far c g) (hn : n ≤ 8796093021952) (hc : nc ≤ 8796093021952) (h3n : n3 ≤ 8796093021952) :
    ST (sel4 a b c (some ⟨g, 0, none⟩)) (sel4 n n nc n3) (sel4 n n nc (n3 + 20)) (sel4 Ca Cb Cc (n3 + 20)) g := by
  refine ⟨?_, ?_, rfl, rfl, ?_, rfl⟩
  · intro i j hi hj hij
    show Apt (sel4 a b c (some ⟨g, 0, none⟩) i) (sel4 a b c (some ⟨g, 0, none⟩) j)
    match i, j with
    | 0, 0 => exact absurd rfl hij
    | 0, 1 => exact h1
    | 0, 2 => exact h2
    | 0, 3 => exact Apt.far h4
    | 1, 0 => exact h1.symm
    | 1, 1 => exact absurd rfl hij
    | 1, 2 => exact h3
    | 1, 3 => exact Apt.far h5
    | 2, 0 => exact h2.symm
    | 2, 1 => exact h3.symm
    | 2, 2 => exact absurd rfl hij
    | 2, 3 => exact Apt.far h6
    | 3, 0 => exact (Apt.far h4).symm
    | 3, 1 => exact (Apt.far h5).symm
    | 3, 2 => exact (Apt.far h6).symm
    | 3, 3 => exact absurd rfl hij
    | n + 4, _ => exact absurd hi (by omega)
    | _, n + 4 => exact absurd hj (by omega)
  · intro k hk
    match k with
    | 0 => rfl
    | 1 => rfl
    | 2 => rfl
    | n + 3 => exact absurd hk (by omega)
  · intro k hk
    match k with
    | 0 => exact hn
    | 1 => exact hn
    | 2 => exact hc
    | 3 => exact h3n
    | n + 4 => exact absurd hk (by omega)
theorem al4 {w0 w : World} {a b c : Option Addr} {g n3 Ca Cb Cc gl : Nat} {r rc x3 : List ByteArray} (h1 : MR w0 a Ca r w) (h2 : MR w0 b Cb r w) (h3 : MR w0 c Cc rc w)
    (h4 : w.ownsRow w0.heap.size 9 1 (.slice (some ⟨g, 0, none⟩) n3 (n3 + 20)) n3 (x3.map Value.string))
    (hl : w.heap[gl]? = some (.cells #[.slice a r.length r.length, .slice b r.length r.length, .slice c rc.length rc.length, .slice (some ⟨g, 0, none⟩) n3 (n3 + 20)] 22 (0, 0))) (hB : w0.heap.size ≤ w.heap.size) :
    AL (sel4 a b c (some ⟨g, 0, none⟩)) (sel4 r.length r.length rc.length n3) (sel4 r.length r.length rc.length (n3 + 20)) (sel4 Ca Cb Cc (n3 + 20)) gl w0.heap.size w (sel4 r r rc x3) w := by
  refine ⟨hl, ?_, Below.refl _ _, hB⟩
  intro k hk
  match k with
  | 0 => exact h1.ro
  | 1 => exact h2.ro
  | 2 => exact h3.ro
  | 3 => exact h4
  | n + 4 => exact absurd hk (by omega)
theorem own_Cn {w : World} {b n C : Nat} {A : Option Addr} {l : List ByteArray} (h : w.ownsRow b 9 1 (.slice A n C) n (l.map Value.string)) : Kd.C Kd.string w A l.length l := (own_C h).2.2
theorem sort_own_n (A0 : Option Addr) (c0 : Nat) (l0 r : List ByteArray) (n : Nat) (hn : l0.length = n) (w : World) (hr0 : Kd.C Kd.string w A0 l0.length l0) (hc0 : n ≤ c0) (h : goods_Sort.f l0 = some r) :
    Calls Tryd.prog 4 #[.slice A0 n c0] w fun e w' => ∃ (A : Option Addr) (C : Nat), e = .returned (.slice A r.length r.length) ∧ r.length ≤ C ∧ w'.ownsRow w.heap.size 9 1 (.slice A r.length C) r.length (r.map Value.string) ∧ Below w.heap.size w w' := by
  subst hn
  exact sort_own A0 c0 l0 r w hr0 hc0 h
end Go.Proofs.YthkpmldjbogngaaDoor.S
