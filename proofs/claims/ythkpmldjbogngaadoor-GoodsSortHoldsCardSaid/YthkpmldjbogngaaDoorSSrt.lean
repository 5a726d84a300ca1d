/- goods.Sort: the texts in natural order, each once; for every list of texts that are not longer than texts can be. -/
import Derived.Test.YthkpmldjbogngaaDoorSRow
import Derived.Test.YthkpmldjbogngaaDoorSCe
import Derived.Test.YthkpmldjbogngaaDoorShelfS
import Derived.Shelf.SlSortCmp.Whole1
import Derived.Shelf.SlSortCmp.NoneTotal
namespace Go.Proofs.YthkpmldjbogngaaDoor.S
open Go.RowKit Go.Proofs.YthkpmldjbogngaaDoor.Ord Go.Proofs.YthkpmldjbogngaaDoorW.PrintWords Go.Proofs.YthkpmldjbogngaaDoorW.PrintLast Go.Proofs.YthkpmldjbogngaaDoorW.PrintMore
open Go.Sort Go.Lib
abbrev SB := { x : ByteArray // x.size ≤ 1152921504606846976 }
instance : Inhabited SB := ⟨⟨⟨#[]⟩, Nat.zero_le _⟩⟩
def encB (x : SB) : Value := .string x.1
def cmpB (x y : SB) : Int := natural (bytesOf x.1) (bytesOf y.1)
theorem ltB (x y : SB) : ltOf cmpB x y = decide (natural (bytesOf x.1) (bytesOf y.1) = -1) := by
  unfold ltOf cmpB
  have := natural_range (bytesOf x.1) (bytesOf y.1)
  by_cases h : natural (bytesOf x.1) (bytesOf y.1) = -1
  · rw [decide_eq_true h, decide_eq_true (by omega)]
  · rw [decide_eq_false h, decide_eq_false (by omega)]
theorem swoB : SWO (ltOf cmpB) where
  irrefl x := by
    have h : natural (bytesOf x.1) (bytesOf x.1) = 0 := natural_zero.2 rfl
    rw [ltB, h]; rfl
  trans x y z h1 h2 := by
    rw [ltB, decide_eq_true_eq] at h1 h2 ⊢
    exact natural_lt_trans h1 h2
  ntrans x y z h1 h2 := by
    rw [ltB, decide_eq_false_iff_not] at h1 h2 ⊢
    have a1 := natural_anti (bytesOf x.1) (bytesOf y.1)
    have a2 := natural_anti (bytesOf y.1) (bytesOf z.1)
    have a3 := natural_anti (bytesOf x.1) (bytesOf z.1)
    have r1 := natural_range (bytesOf x.1) (bytesOf y.1)
    have r2 := natural_range (bytesOf y.1) (bytesOf z.1)
    have h := (natural_le_trans (a := bytesOf z.1) (b := bytesOf y.1) (c := bytesOf x.1) (by omega) (by omega)).1
    omega
theorem oneB : OneCell encB := fun _ => rfl
theorem cmpLaysB (blk off size : Nat) (w : World) : CmpLays1 Tryd.prog 5 #[] encB cmpB blk off size w := fun m os dk _ x y =>
  (goods_Compare.calls (4 * x.1.size + y.1.size + 5) x.1 y.1 _ _ (SP.compare_eq x.1 y.1 x.2 y.2 _ (Nat.le_refl _))).mono fun e w' ⟨he, nd, hw⟩ => ⟨he, nd, #[], by rw [grow_empty]; exact hw⟩
def okB (l : List ByteArray) : Prop := ∀ x ∈ l, x.size ≤ 1152921504606846976
instance (l : List ByteArray) : Decidable (okB l) := by unfold okB; infer_instance
def toB (l : List ByteArray) (h : okB l) : Array SB := (l.attach.map fun x => (⟨x.1, h x.1 x.2⟩ : SB)).toArray
theorem toB_val (l : List ByteArray) (h : okB l) : (toB l h).toList.map (·.1) = l := by unfold toB; simp
theorem toB_size (l : List ByteArray) (h : okB l) : (toB l h).size = l.length := by simp [toB]
def sortB (d : Array SB) : Array SB := pdq (ltOf cmpB) d 0 d.size (Lib.bitLen d.size) true true
theorem sortB_facts (d : Array SB) : PermIn 0 d.size d (sortB d) ∧ SortedIn (ltOf cmpB) 0 d.size (sortB d) :=
  pdq_sorts (ltOf cmpB) swoB d 0 d.size (Lib.bitLen d.size) true true (Nat.zero_le _) (Nat.le_refl _) (Or.inl rfl)
/-- The list, sorted. -/
def sortL (l : List ByteArray) (h : okB l) : List ByteArray := (sortB (toB l h)).toList.map (·.1)
theorem sortL_length (l : List ByteArray) (h : okB l) : (sortL l h).length = l.length := by
  unfold sortL
  rw [List.length_map, Array.length_toList, (sortB_facts _).1.1, toB_size]
theorem sort_calls (base : Nat) (v : Value) (l : List ByteArray) (w : World) (hB : base ≤ w.heap.size) (h : w.ownsRow base 9 1 v l.length (l.map Value.string)) (hok : okB l) (hl : l.length ≤ 8796093022208) :
    Calls Tryd.prog 10 #[v, .func (.func 5) #[] #[]] w fun e w' => e = .returned (.tuple #[]) ∧ w'.ownsRow base 9 1 v l.length ((sortL l hok).map Value.string) ∧ Below base w w' := by
  by_cases hz : l = []
  · have e0 : sortL l hok = [] := List.eq_nil_of_length_eq_zero (by rw [sortL_length, hz]; rfl)
    obtain ⟨A, c, hv⟩ : ∃ A c, v = .slice A 0 c := by
      rw [hz] at h
      rcases h.2 with ⟨rfl, _⟩ | ⟨g, cap, cur, rfl, _⟩
      · exact ⟨_, _, rfl⟩
      · exact ⟨_, _, rfl⟩
    subst hv
    have hcon := AnyF.slices_SortFunc_none (P := Tryd.prog) (ρ := Tryd.sortRun_ren) { Tryd.sortRun with } A c (.func (.func 5) #[] #[]) w
    change Calls Tryd.prog 10 _ _ _ at hcon
    refine hcon.mono fun e w' ⟨he, hw⟩ => ⟨he, ?_, by subst hw; exact Below.refl _ _⟩
    subst hw
    rw [e0]
    rw [hz] at h ⊢
    exact h
  · rcases h.2 with ⟨_, h1⟩ | ⟨g, cap, cur, rfl, hbg, hhg, hnc, hcm, hcs, htk⟩
    · exact absurd (List.eq_nil_of_length_eq_zero h1) hz
    · have hsz := toB_size l hok
      have hH : Holds encB w g 0 (toB l hok) := by
        intro j hj
        have hj' : j < l.length := by omega
        have hjc : j < cur.size := by omega
        have hget : cur[j]? = some (.string l[j]) := by
          have := congrArg (fun q => q[j]?) htk
          simp only [List.getElem?_map, List.getElem?_eq_getElem hj', Option.map_some] at this
          rw [List.getElem?_take_of_lt (by omega), Array.getElem?_toList] at this
          exact this
        refine ⟨?_, by simp [World.frozen?, hhg]⟩
        rw [Nat.zero_add]
        have e1 : encB (toB l hok)[j]! = .string l[j] := by
          have e2 := congrArg (fun q => q[j]?) (toB_val l hok)
          simp only [List.getElem?_map, Array.getElem?_toList, Array.getElem?_eq_getElem hj, Option.map_some, List.getElem?_eq_getElem hj'] at e2
          injection e2 with e2
          rw [getElem!_pos _ j hj]
          unfold encB
          rw [e2]
        rw [e1]
        simp [World.cell?, hhg, hget]
      have hg : g < w.heap.size := (Array.getElem?_eq_some_iff.1 hhg).1
      have hcon := Any.slices_SortFunc_eq (P := Tryd.prog) (ρ := Tryd.sortRun_ren) Tryd.sortRun encB oneB cmpB swoB 5 #[] g 0 cap (toB l hok) w (enters_of Tryd.func5 (by kernel_rfl) rfl) (cmpLaysB g 0 _ w) hH hg (by omega)
      change Calls Tryd.prog 10 _ _ _ at hcon
      rw [hsz] at hcon
      refine hcon.mono fun e w' ⟨he, q, os, hw⟩ => ?_
      have hw2 : w' = grow (putRow encB (Sort.ahead w q) g 0 (sortB (toB l hok))) os := by unfold sortB; rw [hsz]; exact hw
      have hss : (sortB (toB l hok)).size = l.length := by rw [(sortB_facts _).1.1, hsz]
      have ho := own_put (enc := encB) (q := q) (os := os) (m := l.length) (sortB (toB l hok)) hhg hbg (by omega) (by omega) hcm hcs
      have hx : ((sortB (toB l hok)).toList.take l.length).map encB = (sortL l hok).map Value.string := by
        rw [List.take_of_length_le (by rw [Array.length_toList]; omega)]
        unfold sortL
        rw [List.map_map]
        rfl
      rw [hx] at ho
      refine ⟨he, by rw [hw2]; exact ho, ?_⟩
      rw [hw2]
      exact (Below.refl base w).grown (grownBy_put _) hB (fun k hk => by cases hk; exact hbg)
def goods_Sort.f (l0 : List ByteArray) : Option (List ByteArray) := if h : okB l0 ∧ l0.length ≤ 8796093022208 then some (compactB (sortL l0 h.1)) else none
theorem below_drawn {B : Nat} {a b c : World} (h : Below B a b) (hd : Drawn0 b c) : Below B a c := by
  obtain ⟨n, rfl⟩ := hd
  exact ⟨h.os, h.tape, h.output, h.size, h.block⟩
theorem goods_Sort.calls (A0 : Option Addr) (c0 : Nat) (l0 : List ByteArray) (r : List ByteArray) (w : World) (hr0 : Kd.C Kd.string w A0 l0.length l0) (_hc0 : l0.length ≤ c0) (h : goods_Sort.f l0 = some r) :
    Calls Tryd.prog 4 #[.slice A0 l0.length c0] w fun e w' => ∃ v0_ : Value, e = .returned (v0_) ∧ Kd.V Kd.string 9 w' w.heap.size (fun k_ => True ∧ w.heap.size ≤ k_ ∧ k_ < w'.heap.size) v0_ r ∧ Below w.heap.size w w' := by
  unfold goods_Sort.f at h
  by_cases hh : okB l0 ∧ l0.length ≤ 8796093022208
  · rw [dif_pos hh] at h
    injection h with h
    obtain ⟨hok, hl⟩ := hh
    have HR := Aside0.mk hr0
    have HL := Aside0.mk hl
    have HK := Aside0.mk hok
    have HE : Aside0 (compactB (sortL l0 hok) = r) := ⟨h⟩
    clear hr0 hl h
    go_enter Tryd.func4, Tryd.ntmps4
    go_wp2_with (first
      | (go_at_call 9; (with_reducible refine (clone_calls A0 c0 l0 _ ?s1 HL.out).mono ?_); (case s1 => repeat (first | exact HR.out | (with_reducible refine Kd.C_alloc ?_ _) | (with_reducible refine Kd.C_drewN ?_ _) | (with_reducible refine Kd.C_drew ?_)));
         rintro e w1 ⟨v, rfl, hown, hb⟩; have HO1 : Aside0 (w1.ownsRow w.heap.size 9 1 v l0.length (l0.map Value.string)) := ⟨hown⟩; have HB1 : Aside0 (Below w.heap.size w w1) := ⟨⟨hb.os, hb.tape, hb.output, hb.size, hb.block⟩⟩; clear hown hb)
      | (go_at_call 10; (with_reducible refine (sort_calls w.heap.size v l0 _ ?s2 ?s3 HK.out HL.out).mono ?_); (case s2 => exact HB1.out.size); (case s3 => exact HO1.out);
         rintro e w2 ⟨rfl, hown, hb⟩; have HO2 : Aside0 (w2.ownsRow w.heap.size 9 1 v l0.length ((sortL l0 hok).map Value.string)) := ⟨hown⟩; have HB2 : Aside0 (Below w.heap.size w w2) := ⟨⟨hb.os.trans HB1.out.os, hb.tape.trans HB1.out.tape, hb.output.trans HB1.out.output, Nat.le_trans HB1.out.size hb.size, fun k hk => (hb.block k hk).trans (HB1.out.block k hk)⟩⟩; clear hown hb)
      | (go_at_call 12; (with_reducible refine (compact_calls w.heap.size v (sortL l0 hok) _ ?s4 ?s5 ?s6).mono ?_); (case s4 => exact HB2.out.size); (case s5 => rw [sortL_length]; exact HO2.out); (case s6 => rw [sortL_length]; exact HL.out);
         rintro e w3 ⟨A3, c3, rfl, hc3, hown, hb⟩; have HO3 : Aside0 (w3.ownsRow w.heap.size 9 1 (.slice A3 (compactB (sortL l0 hok)).length c3) (compactB (sortL l0 hok)).length ((compactB (sortL l0 hok)).map Value.string)) := ⟨hown⟩; have HC3 := Aside0.mk hc3; have HB3 : Aside0 (Below w.heap.size w w3) := ⟨⟨hb.os.trans HB2.out.os, hb.tape.trans HB2.out.tape, hb.output.trans HB2.out.output, Nat.le_trans HB2.out.size hb.size, fun k hk => (hb.block k hk).trans (HB2.out.block k hk)⟩⟩; clear hown hb hc3)
      | (go_at_call 11; (with_reducible refine (clip_calls A3 _ c3 _ HC3.out).mono ?_); rintro e w4 ⟨rfl, ⟨nd, rfl⟩⟩))
    go_ret
    have hr := HE.out
    subst hr
    exact ⟨_, rfl, Kd.V_drewN (str_V HO3.out rfl) nd, below_drawn HB3.out ⟨nd, rfl⟩⟩
  · rw [dif_neg hh] at h; cases h
end Go.Proofs.YthkpmldjbogngaaDoor.S
