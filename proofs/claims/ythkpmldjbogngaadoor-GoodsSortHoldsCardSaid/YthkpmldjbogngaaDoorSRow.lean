/- Rows of texts of the call's own: slices.Clone, slices.Compact and slices.Clip on them. -/
import Derived.Test.YthkpmldjbogngaaDoorSx0
import Derived.Test.YthkpmldjbogngaaDoorShelfP
import Derived.WalkSpells
namespace Go.Proofs.YthkpmldjbogngaaDoor.S
open Go.RowKit Go.Proofs.YthkpmldjbogngaaDoorW.PrintWords Go.Proofs.YthkpmldjbogngaaDoorW.PrintLast Go.Proofs.YthkpmldjbogngaaDoorW.PrintMore
open Go.Sort
theorem info9 : (Tryd.prog.info? 9).map (fun i => (i.zero, i.size, i.bytes)) = some (some (.string ⟨#[]⟩), 1, 16) := by kernel_rfl
theorem info22 : (Tryd.prog.info? 22).map (fun i => (i.zero, i.size, i.bytes)) = some (some (.slice none 0 0), 1, 24) := by kernel_rfl
theorem str_cells_of (w : World) (ad : Addr) (l : List ByteArray) (h : Kd.C Kd.string w (some ad) l.length l) : ∀ j u, (l.map Value.string)[j]? = some u → w.cell? (ad.add j) = some u := by
  intro j u hu
  rw [List.getElem?_map] at hu
  obtain ⟨x, hx, rfl⟩ := Option.map_eq_some_iff.1 hu
  have hj : j < l.length := (List.getElem?_eq_some_iff.1 hx).1
  obtain ⟨ad', e, h0⟩ := Kd.at_string h (j : Int) (by omega) (by omega)
  cases e
  rw [Int.toNat_natCast] at h0
  have : rdOf ByteArray.empty l (j : Int) = x := by unfold rdOf; rw [Int.toNat_natCast, List.getD_eq_getElem?_getD, hx]; rfl
  rw [this] at h0
  exact h0
theorem str_reps (w : World) (base : Nat) (ok : Nat → Prop) (l : List ByteArray) : Reps (Kd.M Kd.string w base ok) 1 l (l.map Value.string) := by
  induction l with
  | nil => exact Reps.none _ _
  | cons x t ih => exact Reps.front (show Kd.M Kd.string w base ok x [.string x] from rfl) rfl ih rfl
theorem str_V {w : World} {base n c : Nat} {A : Option Addr} {l : List ByteArray} (h : w.ownsRow base 9 1 (.slice A n c) n (l.map Value.string)) (hn : n = l.length) :
    Kd.V Kd.string 9 w base (fun k_ => True ∧ base ≤ k_ ∧ k_ < w.heap.size) (.slice A l.length l.length) l := by
  subst hn
  have h1 : Kd.R Kd.string 9 w base (fun _ => True) (.slice A l.length c) l := ⟨fun _ _ => trivial, l.map Value.string, h, str_reps _ _ _ _⟩
  exact Kd.V_mk (Nat.le_refl _) (Kd.F_mono (Kd.R_F (Kd.R_bound h1)) (fun k hk => ⟨trivial, hk.2.1, hk.2.2.1⟩))
set_option maxHeartbeats 400000 in
theorem clone_some (ad : Addr) (c0 : Nat) (l0 : List ByteArray) (w : World) (hr0 : Kd.C Kd.string w (some ad) l0.length l0) (hl : l0.length ≤ 8796093022208) :
    Calls Tryd.prog 9 #[.slice (some ad) l0.length c0] w fun e w' => ∃ v0_ : Value, e = .returned (v0_) ∧ w'.ownsRow w.heap.size 9 1 v0_ l0.length (l0.map Value.string) ∧ Below w.heap.size w w' := by
  obtain ⟨i0, hi, hz0, hz1, hz2⟩ := info_parts info9
  have A := Aside0.mk (str_cells_of w ad l0 hr0)
  have HL := Aside0.mk hl
  have q22 : ∀ (w : World) (a : Option Addr) (n c n' c' : Nat), (binOp .eql 22 (.slice a n c) (.slice none n' c')).run Tryd.prog w = .ok (.bool a.isNone) w := fun w a n c n' c' => Lib.run_eql_slice_nil w _ _ a n c n' c' Tryd.underlying22
  clear hr0 hl
  go_enter Tryd.func9, Tryd.ntmps9
  go_wp2_with (at_builtin; refine wpList_append_own _ rfl _ _ 22 rfl w.heap.size 9 i0 (.string ⟨#[]⟩) 1 16 Tryd.underlying22 hi hz0 hz1 hz2 rfl (by decide) _ _ _ rfl (World.ownsRow_made w #[] 0 (Nat.le_refl _) (Nat.zero_le _) (by simp)) ad l0.length c0 (l0.map Value.string) rfl ?qc1 ?qc2 ?qc3 ?qc4 ?qc5 ?qc6 ?_)
  case qc1 => rw [List.length_map, Nat.mul_one]
  case qc2 =>
    intro j u hj
    exact Lib.cell?_alloc_some _ (A.out j u hj)
  case qc3 =>
    intro u hu
    simp only [List.mem_map] at hu
    obtain ⟨x, _, rfl⟩ := hu
    rfl
  case qc4 => have := HL.out; unfold maxLen; omega
  case qc5 => have := HL.out; omega
  case qc6 => simp
  intro v' w1 hown hgrow hnil
  have HO := Aside0.mk hown
  have HG := Aside0.mk hgrow
  clear hown hgrow hnil q22 hi hz0 hz1 hz2
  go_wp2
  go_ret
  exact ⟨v', rfl, HO.out, ((Below.refl _ w).alloc (Nat.le_refl _) _).grown HG.out (by simp) (by intro k hk; simp [Value.ownBlock] at hk; omega)⟩
theorem clone_calls (A0 : Option Addr) (c0 : Nat) (l0 : List ByteArray) (w : World) (hr0 : Kd.C Kd.string w A0 l0.length l0) (hl : l0.length ≤ 8796093022208) :
    Calls Tryd.prog 9 #[.slice A0 l0.length c0] w fun e w' => ∃ v0_ : Value, e = .returned (v0_) ∧ w'.ownsRow w.heap.size 9 1 v0_ l0.length (l0.map Value.string) ∧ Below w.heap.size w w' := by
  cases A0 with
  | none =>
    have hz : l0 = [] := by
      cases l0 with
      | nil => rfl
      | cons x t =>
        obtain ⟨ad, e, _⟩ := Kd.at_string hr0 0 (by omega) (by simp only [List.length_cons]; omega)
        cases e
    subst hz
    exact (Tryd.slices_Clone_string_nil 0 c0 w).mono fun e w' ⟨he, hw⟩ => ⟨_, he, ⟨rfl, .inl ⟨rfl, rfl⟩⟩, by subst hw; exact Below.refl _ _⟩
  | some ad => exact clone_some ad c0 l0 w hr0 hl
section
variable {α : Type} [Inhabited α] {enc : α → Value}
theorem heap_put {w : World} {g q : Nat} {os : Array Obj} {cur : Array Value} {e : TypeId} {fr : Nat × Nat} (d : Array α) (hb : w.heap[g]? = some (.cells cur e fr)) :
    (grow (putRow enc (Sort.ahead w q) g 0 d) os).heap[g]? = some (.cells (putCells enc 0 d cur) e fr) := by
  have hg : g < w.heap.size := (Array.getElem?_eq_some_iff.1 hb).1
  rw [heap_grow_old _ _ (by simpa [putRow, mapBlock, Sort.ahead] using hg)]
  simp [putRow, mapBlock, Sort.ahead, Array.getElem?_modify, hb, onCells]
theorem grownBy_put {w : World} {g q : Nat} {os : Array Obj} (d : Array α) : w.grownBy (grow (putRow enc (Sort.ahead w q) g 0 d) os) (some g) := by
  refine ⟨rfl, rfl, rfl, by simp [putRow, mapBlock, Sort.ahead, grow], fun k hk hne => ?_⟩
  rw [heap_grow_old _ _ (by simpa [putRow, mapBlock, Sort.ahead] using hk)]
  have : g ≠ k := fun e => hne (by rw [e])
  simp [putRow, mapBlock, Sort.ahead, Array.getElem?_modify, this]
theorem take_put (cur : Array Value) (d : Array α) (m : Nat) (hm : m ≤ d.size) (h : d.size ≤ cur.size) : (putCells enc 0 d cur).toList.take m = (d.toList.take m).map enc := by
  apply List.ext_getElem?
  intro j
  by_cases hj : j < m
  · have h2 : j < cur.size := by omega
    have h3 : j < d.size := by omega
    rw [List.getElem?_take_of_lt hj, List.getElem?_map, List.getElem?_take_of_lt hj, Array.getElem?_toList, Array.getElem?_toList, Array.getElem?_eq_getElem h3]
    simp [putCells, h2, h3]
  · rw [List.getElem?_take_eq_none (by omega), List.getElem?_map, List.getElem?_take_eq_none (by omega)]; rfl
/-- A row of the call's own, put anew: its first m places. -/
theorem own_put {w : World} {base g q cap m : Nat} {os : Array Obj} {cur : Array Value} (d : Array α) (hb : w.heap[g]? = some (.cells cur 9 (0, 0))) (hg : base ≤ g) (hm : m ≤ d.size) (hd : d.size ≤ cap) (hc : cap ≤ maxLen) (hs : cur.size = cap * 1) :
    (grow (putRow enc (Sort.ahead w q) g 0 d) os).ownsRow base 9 1 (.slice (some ⟨g, 0, none⟩) m cap) m ((d.toList.take m).map enc) := by
  refine ⟨by simp; omega, .inr ⟨g, cap, putCells enc 0 d cur, rfl, hg, heap_put d hb, Nat.le_trans hm hd, hc, by rw [← hs]; simp [putCells], ?_⟩⟩
  rw [Nat.mul_one]
  exact take_put cur d m hm (by omega)
end
def compactB (l : List ByteArray) : List ByteArray := (Lib.compact (l.map fun x => x.data.toList)).map fun z => ⟨z.toArray⟩
theorem compactB_le (l : List ByteArray) : (compactB l).length ≤ l.length := by
  unfold compactB Lib.compact Lib.compactUpTo
  rw [List.length_map, List.length_map]
  refine Nat.le_trans (List.length_filter_le _ _) ?_
  rw [List.length_range, List.length_map]
  exact Nat.le_refl _
theorem compact_calls (base : Nat) (v : Value) (l : List ByteArray) (w : World) (hB : base ≤ w.heap.size) (h : w.ownsRow base 9 1 v l.length (l.map Value.string)) (hl : l.length ≤ 8796093022208) :
    Calls Tryd.prog 12 #[v] w fun e w' => ∃ (A : Option Addr) (c : Nat), e = .returned (.slice A (compactB l).length c) ∧ (compactB l).length ≤ c ∧ w'.ownsRow base 9 1 (.slice A (compactB l).length c) (compactB l).length ((compactB l).map Value.string) ∧ Below base w w' := by
  by_cases hz : l = []
  · subst hz
    have e0 : compactB [] = [] := rfl
    obtain ⟨A, c, hv⟩ : ∃ A c, v = .slice A 0 c := by
      rcases h.2 with ⟨rfl, _⟩ | ⟨g, cap, cur, rfl, _⟩
      · exact ⟨_, _, rfl⟩
      · exact ⟨_, _, rfl⟩
    subst hv
    exact (Tryd.slices_Compact_string_empty A c w).mono fun e w' ⟨he, hw⟩ => ⟨A, c, by rw [e0]; exact he, by rw [e0]; exact Nat.zero_le _, by subst hw; rw [e0]; exact h, by subst hw; exact Below.refl _ _⟩
  · rcases h.2 with ⟨_, h1⟩ | ⟨g, cap, cur, rfl, hbg, hhg, hnc, hcm, hcs, htk⟩
    · exact absurd (List.eq_nil_of_length_eq_zero h1) hz
    · obtain ⟨zs, hzs⟩ : ∃ zs, (l.map fun x => x.data.toList) = zs := ⟨_, rfl⟩
      have hlen : zs.length = l.length := by rw [← hzs, List.length_map]
      have hH : Holds encStr w g 0 zs.toArray := by
        intro j hj
        rw [List.size_toArray] at hj
        have hj' : j < l.length := by omega
        have hjc : j < cur.size := by omega
        have hget : cur[j]? = some (.string l[j]) := by
          have := congrArg (fun q => q[j]?) htk
          simp only [List.getElem?_map, List.getElem?_eq_getElem hj', Option.map_some] at this
          rw [List.getElem?_take_of_lt (by omega), Array.getElem?_toList] at this
          exact this
        refine ⟨?_, by simp [World.frozen?, hhg]⟩
        rw [Nat.zero_add]
        have e1 : encStr zs.toArray[j]! = .string l[j] := by
          have hj2 : j < zs.toArray.size := by rw [List.size_toArray]; exact hj
          rw [getElem!_pos _ j hj2]
          subst hzs
          simp
        rw [e1]
        simp [World.cell?, hhg, hget]
      have hcon := Tryd.slices_Compact_string g 0 cap zs w hH (by omega) (by omega)
      rw [hlen] at hcon
      refine hcon.mono fun e w' ⟨he, q, hw⟩ => ?_
      have hm : (compactB l).length = (Lib.compact zs).length := by unfold compactB; rw [List.length_map, hzs]
      have hle : (Lib.compact zs).length ≤ l.length := by rw [← hm]; exact compactB_le l
      have hw2 : w' = grow (putRow encStr (Sort.ahead w q) g 0 (Lib.compact zs ++ List.replicate (l.length - (Lib.compact zs).length) []).toArray) #[] := by rw [grow_empty]; exact hw
      have hds : (Lib.compact zs ++ List.replicate (l.length - (Lib.compact zs).length) []).toArray.size = l.length := by rw [List.size_toArray, List.length_append, List.length_replicate]; omega
      have ho := own_put (enc := encStr) (q := q) (os := #[]) (m := (Lib.compact zs).length) (Lib.compact zs ++ List.replicate (l.length - (Lib.compact zs).length) []).toArray hhg hbg (by rw [hds]; exact hle) (by rw [hds]; exact hnc) hcm hcs
      have hx : (((Lib.compact zs ++ List.replicate (l.length - (Lib.compact zs).length) []).toArray.toList.take (Lib.compact zs).length).map encStr) = (compactB l).map Value.string := by
        unfold compactB
        rw [hzs]
        simp
      rw [hx] at ho
      refine ⟨some ⟨g, 0, none⟩, cap, by rw [hm]; exact he, by omega, by rw [hw2, hm]; exact ho, ?_⟩
      rw [hw2]
      exact (Below.refl base w).grown (grownBy_put _) hB (fun k hk => by cases hk; exact hbg)
theorem clip_calls (A : Option Addr) (n c : Nat) (w : World) (h : n ≤ c) :
    Calls Tryd.prog 11 #[.slice A n c] w fun e w' => e = .returned (.slice A n n) ∧ Drawn0 w w' := by
  go_enter Tryd.func11, Tryd.ntmps11
  go_wp2
  go_ret
  exact ⟨rfl, Drawn0.refl _⟩
end Go.Proofs.YthkpmldjbogngaaDoor.S
