/- Rows of texts that rise strictly: there is one for each set of texts; what the program's Sort answers is one; what the reference's Sort answers is one. -/
import Derived.Test.YthkpmldjbogngaaDoorSSrt
import Derived.Test.YthkpmldjbogngaaDoorSx4
namespace Go.Proofs.YthkpmldjbogngaaDoor.SP
open Go.RowKit Go.Proofs.YthkpmldjbogngaaDoor.S Go.Proofs.YthkpmldjbogngaaDoor.Ord Go.Proofs.YthkpmldjbogngaaDoorW.PrintWords Go.Proofs.YthkpmldjbogngaaDoorW.PrintLast
def nat2 (x y : ByteArray) : Int := natural (bytesOf x) (bytesOf y)
theorem nat2_anti (x y : ByteArray) : nat2 y x = - nat2 x y := natural_anti _ _
theorem nat2_zero {x y : ByteArray} : nat2 x y = 0 ↔ x = y := ⟨fun h => bytesOf_inj (natural_zero.1 h), fun h => by subst h; exact natural_zero.2 rfl⟩
theorem nat2_range (x y : ByteArray) : nat2 x y = -1 ∨ nat2 x y = 0 ∨ nat2 x y = 1 := natural_range _ _
theorem nat2_trans {x y z : ByteArray} (h1 : nat2 x y = -1) (h2 : nat2 y z = -1) : nat2 x z = -1 := natural_lt_trans h1 h2
def SS (l : List ByteArray) : Prop := l.Pairwise fun x y => nat2 x y = -1
theorem ss_ext : ∀ {a b : List ByteArray}, SS a → SS b → (∀ x, x ∈ a ↔ x ∈ b) → a = b
  | [], [], _, _, _ => rfl
  | [], y :: t, _, _, h => absurd ((h y).2 (by simp)) (by simp)
  | x :: s, [], _, _, h => absurd ((h x).1 (by simp)) (by simp)
  | x :: s, y :: t, ha, hb, h => by
    obtain ⟨ha1, ha2⟩ := List.pairwise_cons.1 ha
    obtain ⟨hb1, hb2⟩ := List.pairwise_cons.1 hb
    have hxy : x = y := by
      rcases List.mem_cons.1 ((h x).1 (by simp)) with e | hx
      · exact e
      · rcases List.mem_cons.1 ((h y).2 (by simp)) with e | hy
        · exact e.symm
        · have h1 := hb1 x hx
          have h2 := ha1 y hy
          have h3 := nat2_anti x y
          omega
    subst hxy
    have no : ∀ z, nat2 x z = -1 → z ≠ x := by
      rintro z hz rfl
      rw [nat2_zero.2 rfl] at hz; cases hz
    rw [ss_ext ha2 hb2 (fun z => ⟨fun hz => (List.mem_cons.1 ((h z).1 (List.mem_cons_of_mem _ hz))).resolve_left (no z (ha1 z hz)), fun hz => (List.mem_cons.1 ((h z).2 (List.mem_cons_of_mem _ hz))).resolve_left (no z (hb1 z hz))⟩)]

/-! ### the program's -/
def ba (z : List UInt8) : ByteArray := ⟨z.toArray⟩
theorem ba_inj {z u : List UInt8} (h : ba z = ba u) : z = u := by
  have := congrArg (fun b => b.data.toList) h
  simpa [ba] using this
theorem compact_facts (d : Array (List UInt8)) (hs : ∀ i j, i < j → j < d.size → nat2 (ba d[i]!) (ba d[j]!) ≤ 0) : ∀ m, m ≤ d.size →
    (∀ z, z ∈ Lib.compactUpTo d m ↔ ∃ j, j < m ∧ d[j]! = z) ∧ (Lib.compactUpTo d m).Pairwise (fun z u => nat2 (ba z) (ba u) = -1)
  | 0, _ => ⟨fun z => by simp [Lib.compactUpTo], by simp [Lib.compactUpTo]⟩
  | m + 1, hm => by
    obtain ⟨h1, h2⟩ := compact_facts d hs m (by omega)
    rw [Lib.compactUpTo_succ]
    by_cases hk : Lib.keeps d m = true
    · rw [if_pos hk]
      refine ⟨fun z => ?_, ?_⟩
      · rw [List.mem_append, List.mem_singleton, h1 z]
        constructor
        · rintro (⟨j, hj, e⟩ | e)
          · exact ⟨j, by omega, e⟩
          · exact ⟨m, by omega, e.symm⟩
        · rintro ⟨j, hj, e⟩
          by_cases hjm : j = m
          · subst hjm; exact .inr e.symm
          · exact .inl ⟨j, by omega, e⟩
      · rw [List.pairwise_append]
        refine ⟨h2, by simp, fun z hz u hu => ?_⟩
        rw [List.mem_singleton] at hu
        subst hu
        obtain ⟨j, hj, rfl⟩ := (h1 z).1 hz
        have hle := hs j m hj (by omega)
        rcases nat2_range (ba d[j]!) (ba d[m]!) with h | h | h
        · exact h
        · exfalso
          have hne : d[m]! ≠ d[m - 1]! := by
            unfold Lib.keeps at hk
            rw [decide_eq_true_eq] at hk
            exact hk.resolve_left (by omega)
          have he := ba_inj (nat2_zero.1 h)
          by_cases hj1 : j = m - 1
          · subst hj1; exact hne he.symm
          · have a1 := hs j (m - 1) (by omega) (by omega)
            have a2 := hs (m - 1) m (by omega) (by omega)
            rw [he] at a1
            have a3 := nat2_anti (ba d[m]!) (ba d[m - 1]!)
            exact hne (ba_inj (nat2_zero.1 (by omega)))
        · omega
    · rw [if_neg hk, List.append_nil]
      refine ⟨fun z => ?_, h2⟩
      rw [h1 z]
      have hk' : ¬ (m = 0 ∨ d[m]! ≠ d[m - 1]!) := by
        intro h; exact hk (by unfold Lib.keeps; exact decide_eq_true h)
      constructor
      · rintro ⟨j, hj, e⟩
        exact ⟨j, by omega, e⟩
      · rintro ⟨j, hj, e⟩
        by_cases hjm : j = m
        · subst hjm
          refine ⟨j - 1, by omega, ?_⟩
          rw [← e]
          exact (Classical.not_not.1 (fun h => hk' (.inr (fun e2 => h e2.symm))))
        · exact ⟨j, by omega, e⟩
theorem sortL_perm (l : List ByteArray) (h : okB l) : (sortL l h).Perm l := by
  obtain ⟨h1, _, h3⟩ := (sortB_facts (toB l h)).1
  have e1 : ((sortB (toB l h)).extract 0 (toB l h).size).toList = (sortB (toB l h)).toList := by rw [← h1]; simp
  have e2 : ((toB l h).extract 0 (toB l h).size).toList = (toB l h).toList := by simp
  rw [e1, e2] at h3
  have := h3.map (fun x : SB => x.1)
  rw [toB_val] at this
  exact this
theorem sortL_sorted (l : List ByteArray) (h : okB l) (i j : Nat) (hij : i < j) (hj : j < (sortL l h).length) : nat2 (sortL l h)[i] (sortL l h)[j] ≤ 0 := by
  have hs := (sortB_facts (toB l h)).2
  have hsz := (sortB_facts (toB l h)).1.1
  have hl := sortL_length l h
  have ht := toB_size l h
  have h1 := hs i j (Nat.zero_le _) hij (by omega)
  rw [ltB, decide_eq_false_iff_not] at h1
  have g : ∀ q (hq : q < (sortL l h).length), (sortL l h)[q] = ((sortB (toB l h))[q]!).1 := by
    intro q hq
    rw [getElem!_pos _ q (by omega)]
    unfold sortL
    simp
  rw [g i (by omega), g j hj]
  have a1 := nat2_anti ((sortB (toB l h))[i]!).1 ((sortB (toB l h))[j]!).1
  have r1 := nat2_range ((sortB (toB l h))[j]!).1 ((sortB (toB l h))[i]!).1
  unfold nat2 at *
  omega
theorem prog_sort (l : List ByteArray) (h : okB l) (hl : l.length ≤ 8796093022208) : ∃ r, goods_Sort.f l = some r ∧ SS r ∧ ∀ z, z ∈ r ↔ z ∈ l := by
  refine ⟨compactB (sortL l h), by unfold goods_Sort.f; rw [dif_pos ⟨h, hl⟩], ?_⟩
  obtain ⟨zs, hzs⟩ : ∃ zs, ((sortL l h).map fun x => x.data.toList) = zs := ⟨_, rfl⟩
  have hlen : zs.length = (sortL l h).length := by rw [← hzs, List.length_map]
  have hget : ∀ q, q < (sortL l h).length → ba zs.toArray[q]! = (sortL l h)[q]! := by
    intro q hq
    rw [getElem!_pos _ q (by rw [List.size_toArray]; omega), getElem!_pos _ q hq]
    subst hzs
    simp [ba]
  have hs : ∀ i j, i < j → j < zs.toArray.size → nat2 (ba zs.toArray[i]!) (ba zs.toArray[j]!) ≤ 0 := by
    intro i j hij hj
    rw [List.size_toArray] at hj
    rw [hget i (by omega), hget j (by omega), getElem!_pos _ i (by omega), getElem!_pos _ j (by omega)]
    exact sortL_sorted l h i j hij (by omega)
  obtain ⟨f1, f2⟩ := compact_facts zs.toArray hs zs.length (by rw [List.size_toArray]; exact Nat.le_refl _)
  have hc : compactB (sortL l h) = (Lib.compactUpTo zs.toArray zs.length).map ba := by unfold compactB Lib.compact; rw [hzs]; rfl
  rw [hc]
  refine ⟨List.pairwise_map.2 f2, fun z => ?_⟩
  rw [List.mem_map]
  rw [← (sortL_perm l h).mem_iff]
  constructor
  · rintro ⟨u, hu, rfl⟩
    obtain ⟨j, hj, rfl⟩ := (f1 u).1 hu
    rw [hget j (by omega), getElem!_pos _ j (by omega)]
    exact List.getElem_mem _
  · intro hz
    obtain ⟨j, hj, rfl⟩ := List.getElem_of_mem hz
    exact ⟨zs.toArray[j]!, (f1 _).2 ⟨j, by omega, rfl⟩, by rw [hget j hj, getElem!_pos _ j hj]⟩
end Go.Proofs.YthkpmldjbogngaaDoor.SP
