/- What the reference's Match answers: what the program's does. -/
import Derived.Test.YtmicghhmbojkfaaGreatDoorGx35
import Derived.Test.YtmicghhmbojkfaaGreatDoorMat
import Derived.Test.YtmicghhmbojkfaaGreatDoorRfC
namespace Go.Proofs.YtmicghhmbojkfaaGreatDoor.PM
open Go.Proofs.YtmicghhmbojkfaaGreatDoor.G hiding bytesOf_length
open Go.RowKit Go.Proofs.YtmicghhmbojkfaaGreatDoorW.PrintWords Go.Proofs.YtmicghhmbojkfaaGreatDoorW.PrintLast
theorem rfits_eq (p c : Int) : barrowref02_fits.f p c = some (fitsB p c) := by
  unfold barrowref02_fits.f fitsB
  rw [PC.rdigit_eq, PC.rletter_eq]
  repeat' split
  all_goals rfl
theorem rmatch_l2 (x0 s : ByteArray) (p : List Int) (i : Nat) (hi : i < x0.size) (hs : s.size ≤ 24) : ∀ (d j k : Nat) (nx : List Bool), j + d = s.size + 1 → partRow (bt x0 i :: p) (bytesOf s) (s.size + 1) j nx → (∀ q, j ≤ q → nx.getD q false = false) →
    barrowref02_Match.l2 (k + 2 * d + 1) x0 s (rowOf p (bytesOf s) (s.size + 1)) i nx (decide (0 < j) && fitR (42 :: p) ((bytesOf s).take (j - 1)).reverse) j = barrowref02_Match.l1 k x0 s (rowOf (bt x0 i :: p) (bytesOf s) (s.size + 1)) (wrap64 ((i : Int) + 1))
  | 0, j, k, nx, hd, hn, _ => by
    obtain rfl : j = s.size + 1 := by omega
    rw [barrowref02_Match.l2, if_neg (by omega), part_all _ _ _ _ hn]
  | d + 1, j, k, nx, hd, hn, hf => by
    have hw : wrap64 ((j : Int) + 1) = ((j + 1 : Nat) : Int) := by unfold wrap64; omega
    have hlen : (rowOf p (bytesOf s) (s.size + 1)).length = s.size + 1 := rowOf_length _ _ _
    have hc42 := cell_fit s p 42 j (by omega)
    have hcd := cell_fit s p (bt x0 i) j (by omega)
    -- what is held as 'any so far' behind this place
    have h11 : ((decide (0 < j) && fitR (42 :: p) ((bytesOf s).take (j - 1)).reverse) || (rowOf p (bytesOf s) (s.size + 1)).getD j false) = fitR (42 :: p) ((bytesOf s).take j).reverse := by
      rw [← hc42]
      unfold cellN
      rw [if_pos rfl, Bool.or_comm]
      cases decide (0 < j) <;> simp
    have hnext : fitR (42 :: p) ((bytesOf s).take j).reverse = (decide (0 < j + 1) && fitR (42 :: p) ((bytesOf s).take (j + 1 - 1)).reverse) := by
      rw [decide_eq_true (by omega), Bool.true_and, Nat.add_sub_cancel]
    have ek : k + 2 * (d + 1) + 1 = (k + 2 * d + 1) + 2 := by omega
    have step : barrowref02_Match.l2 (k + 2 * (d + 1) + 1) x0 s (rowOf p (bytesOf s) (s.size + 1)) i nx (decide (0 < j) && fitR (42 :: p) ((bytesOf s).take (j - 1)).reverse) j = barrowref02_Match.j3 ((k + 2 * d + 1) + 1) x0 s (rowOf p (bytesOf s) (s.size + 1)) i nx (fitR (42 :: p) ((bytesOf s).take j).reverse) j := by
      rw [ek, ← h11]
      generalize (decide (0 < j) && fitR (42 :: p) ((bytesOf s).take (j - 1)).reverse) = b
      rw [barrowref02_Match.l2, if_pos (by clear hw; omega), rdOf_nat, hlen]
      cases b with
      | true => rw [if_pos rfl, Bool.true_or]
      | false => rw [if_neg (by decide), if_pos (by clear hw; omega), if_pos (by clear hw; omega), Bool.false_or]
    rw [step, barrowref02_Match.j3, if_pos (by clear hw; omega), if_pos (by clear hw; omega), hw]
    clear hw step ek
    have hnl : nx.length = s.size + 1 := hn.1
    -- the place is as it must be
    have fin : ∀ nx' : List Bool, nx'.length = s.size + 1 → (∀ q, q ≠ j → nx'.getD q false = nx.getD q false) → nx'.getD j false = fitR (bt x0 i :: p) ((bytesOf s).take j).reverse →
        barrowref02_Match.l2 (k + 2 * d + 1) x0 s (rowOf p (bytesOf s) (s.size + 1)) i nx' (fitR (42 :: p) ((bytesOf s).take j).reverse) ((j + 1 : Nat) : Int) = barrowref02_Match.l1 k x0 s (rowOf (bt x0 i :: p) (bytesOf s) (s.size + 1)) (wrap64 ((i : Int) + 1)) := by
      intro nx' h1 h2 h3
      rw [hnext]
      refine rmatch_l2 x0 s p i hi hs d (j + 1) k nx' (by omega) ⟨h1, fun q hq => ?_⟩ fun q hq => by rw [h2 q (by omega)]; exact hf q (by omega)
      by_cases e : q = j
      · subst e; exact h3
      · rw [h2 q e]; exact hn.2 q (by omega)
    have put : ∀ b, b = fitR (bt x0 i :: p) ((bytesOf s).take j).reverse →
        barrowref02_Match.l2 (k + 2 * d + 1) x0 s (rowOf p (bytesOf s) (s.size + 1)) i (nx.set ((j : Int)).toNat b) (fitR (42 :: p) ((bytesOf s).take j).reverse) ((j + 1 : Nat) : Int) = barrowref02_Match.l1 k x0 s (rowOf (bt x0 i :: p) (bytesOf s) (s.size + 1)) (wrap64 ((i : Int) + 1)) := by
      intro b hb
      rw [setnat]
      refine fin (nx.set j b) (by rw [List.length_set]; exact hnl) (fun q hq => ?_) ?_
      · rw [List.getD_eq_getElem?_getD, List.getElem?_set, if_neg (fun e => hq e.symm), ← List.getD_eq_getElem?_getD]
      · rw [List.getD_eq_getElem?_getD, List.getElem?_set, if_pos rfl, if_pos (by omega), ← hb]; rfl
    have leave : fitR (bt x0 i :: p) ((bytesOf s).take j).reverse = false →
        barrowref02_Match.l2 (k + 2 * d + 1) x0 s (rowOf p (bytesOf s) (s.size + 1)) i nx (fitR (42 :: p) ((bytesOf s).take j).reverse) ((j + 1 : Nat) : Int) = barrowref02_Match.l1 k x0 s (rowOf (bt x0 i :: p) (bytesOf s) (s.size + 1)) (wrap64 ((i : Int) + 1)) :=
      fun h => fin nx hnl (fun _ _ => rfl) (by rw [h]; exact hf j (Nat.le_refl _))
    rw [hnl]
    by_cases h42 : bt x0 i = 42
    · rw [if_pos h42, if_pos (by omega), if_pos (by omega)]
      exact put _ (by rw [h42])
    · rw [if_neg h42]
      have hcell : fitR (bt x0 i :: p) ((bytesOf s).take j).reverse = (decide (0 < j) && (rowOf p (bytesOf s) (s.size + 1)).getD (j - 1) false && fitsB (bt x0 i) (bt s ((j : Int) - 1))) := by
        rw [← hcd]; unfold cellN; rw [if_neg h42]
      by_cases h2 : 0 < j
      · have hw2 : wrap64 ((j : Int) - 1) = ((j - 1 : Nat) : Int) := by unfold wrap64; omega
        rw [decide_eq_true h2, Bool.true_and] at hcell
        rw [if_pos (by clear hw2; omega), hw2, hlen, if_pos (by clear hw2; omega), if_pos (by clear hw2; omega), rdOf_nat]
        clear hw2
        by_cases h3 : (rowOf p (bytesOf s) (s.size + 1)).getD (j - 1) false = true
        · rw [h3, Bool.true_and] at hcell
          rw [if_pos h3, if_pos (by omega), rfits_eq, Option.bind_some, show (((j - 1 : Nat) : Int)) = (j : Int) - 1 from by omega]
          by_cases h4 : fitsB (bt x0 i) (bt s ((j : Int) - 1)) = true
          · rw [if_pos h4, if_pos (by omega), if_pos (by omega)]
            exact put _ (by rw [hcell, h4])
          · rw [if_neg h4]
            exact leave (by rw [hcell]; simpa using h4)
        · have h3' : (rowOf p (bytesOf s) (s.size + 1)).getD (j - 1) false = false := by simpa using h3
          rw [h3', Bool.false_and] at hcell
          rw [if_neg h3]
          exact leave hcell
      · rw [if_neg (by omega)]
        exact leave (by rw [hcell, decide_eq_false h2]; rfl)
theorem rmatch_l1 (x0 s : ByteArray) (hs : s.size ≤ 24) (h0 : x0.size ≤ 48) : ∀ (d i k : Nat), i + d = x0.size → 60 * d < k →
    barrowref02_Match.l1 k x0 s (rowOf ((bytesOf x0).take i).reverse (bytesOf s) (s.size + 1)) i = some (fitR (bytesOf x0).reverse (bytesOf s).reverse, 0)
  | 0, i, k, hd, hk => by
    obtain ⟨k, rfl⟩ : ∃ m, k = m + 1 := ⟨k - 1, by omega⟩
    rw [barrowref02_Match.l1, if_neg (by omega), if_pos (by omega), rowOf_length, if_pos (by omega), rdOf_nat, rowOf_getD _ _ _ _ (by omega)]
    rw [List.take_of_length_le (by rw [bytesOf_length]; omega), List.take_of_length_le (by rw [bytesOf_length]; omega)]
  | d + 1, i, k, hd, hk => by
    obtain ⟨k, rfl⟩ : ∃ m, k = m + 2 * (s.size + 1) + 1 + 1 := ⟨k - (2 * (s.size + 1) + 2), by omega⟩
    have hw : wrap64 ((s.size : Int) + 1) = ((s.size + 1 : Nat) : Int) := by unfold wrap64; omega
    have hw2 : wrap64 ((i : Int) + 1) = ((i + 1 : Nat) : Int) := by unfold wrap64; omega
    have e2 := rmatch_l2 x0 s ((bytesOf x0).take i).reverse i (by clear hw hw2; omega) hs (s.size + 1) 0 k (List.replicate (s.size + 1) false) (by clear hw hw2; omega) ⟨by simp, fun i h => absurd h (by clear hw hw2; omega)⟩ (fun q _ => by
      rw [List.getD_eq_getElem?_getD, List.getElem?_replicate]; split <;> rfl)
    rw [barrowref02_Match.l1, if_pos (by clear hw hw2; omega), hw, if_pos (by clear hw hw2; omega), if_pos (by clear hw hw2; omega), show (((s.size + 1 : Nat) : Int)).toNat = s.size + 1 from rfl]
    refine (show _ = _ from e2).trans ?_
    rw [hw2, ← rmatch_l1 x0 s hs h0 d (i + 1) k (by clear hw hw2; omega) (by clear hw hw2; omega)]
    rw [take_succ_rev x0 (i + 1) (by clear hw hw2; omega) (by clear hw hw2; omega), show (((i + 1 : Nat) : Int) - 1) = i from by clear hw hw2; omega, Nat.add_sub_cancel]
theorem rgood_eq (s : ByteArray) (k : Nat) (hk : 48 < k) : barrowref02_Good.f k s = some ((checkL (bytesOf s)).2 == 0) := by
  unfold barrowref02_Good.f
  rw [PC.rcheck_eq s k hk]
  rfl
theorem rmatch_l0 (x0 s : ByteArray) (h0 : x0.size ≤ 48) (d : Nat) : ∀ (i k : Nat), i + d = x0.size → 4000 + d < k →
    barrowref02_Match.l0 k x0 s i = some (if ((bytesOf x0).drop i).all okPat = false then (false, 22) else if (checkL (bytesOf s)).2 = 0 then (fitR (bytesOf x0).reverse (bytesOf s).reverse, 0) else (false, 5)) := by
  induction d with
  | zero =>
    intro i k hd hk
    obtain ⟨k, rfl⟩ : ∃ m, k = m + 1 := ⟨k - 1, by omega⟩
    have : (bytesOf x0).drop i = [] := List.drop_eq_nil_of_le (by rw [bytesOf_length]; omega)
    rw [this, barrowref02_Match.l0, if_neg (by omega), rgood_eq s k (by omega), Option.bind_some, List.all_nil, if_neg (show ¬ (true = false) by decide)]
    by_cases hc : (checkL (bytesOf s)).2 = 0
    · have hs := chk_len _ hc
      rw [bytesOf_length] at hs
      have hw : wrap64 ((s.size : Int) + 1) = ((s.size + 1 : Nat) : Int) := by unfold wrap64; omega
      rw [if_pos (by simpa using hc), if_pos hc, hw, if_pos (by clear hw; omega), if_pos (by clear hw; omega), Option.bind_some, if_pos (by rw [List.length_replicate]; clear hw; omega)]
      rw [row_start s (bytesOf x0)]
      have e := rmatch_l1 x0 s hs h0 x0.size 0 k (by clear hw; omega) (by clear hw; omega)
      exact e
    · rw [if_neg (by simpa using hc), if_neg hc]
  | succ d ihd =>
    intro i k hd hk
    obtain ⟨k, rfl⟩ : ∃ m, k = m + 1 := ⟨k - 1, by omega⟩
    have hw : wrap64 ((i : Int) + 1) = ((i + 1 : Nat) : Int) := by unfold wrap64; omega
    have ih := ihd (i + 1) k (by omega) (by omega)
    rw [bytesOf_drop x0 i (by clear hw; omega), List.all_cons, barrowref02_Match.l0]
    rw [if_pos (by clear hw; omega), if_pos (by clear hw; omega), PC.rletter_eq, PC.rdigit_eq, PC.rmark_eq, hw, ih]
    clear hw ih ihd
    simp only [Option.bind_some]
    unfold okPat
    by_cases h1 : letterI (bt x0 i) = true
    · rw [if_pos h1, h1]; simp
    · have h1' : letterI (bt x0 i) = false := by simpa using h1
      rw [if_neg h1, h1']
      by_cases h2 : digitI (bt x0 i) = true
      · rw [if_pos h2, h2]; simp
      · have h2' : digitI (bt x0 i) = false := by simpa using h2
        rw [if_neg h2, h2']
        by_cases h3 : isMarkI (bt x0 i) = true
        · rw [if_pos h3, h3]; simp
        · have h3' : isMarkI (bt x0 i) = false := by simpa using h3
          rw [if_neg h3, h3']
          generalize bt x0 i = c
          by_cases h4 : c = 42
          · rw [if_pos h4]; simp [h4]
          · rw [if_neg h4]
            by_cases h5 : c = 63
            · rw [if_pos h5]; simp [h5]
            · rw [if_neg h5]
              by_cases h6 : c = 35
              · rw [if_pos h6]; simp [h6]
              · rw [if_neg h6]
                by_cases h7 : c = 64
                · rw [if_pos h7]; simp [h7]
                · rw [if_neg h7]; simp [h4, h5, h6, h7]
theorem rmatch_eq (p s : ByteArray) (k : Nat) (hk : 5000 < k) : barrowref02_Match.f k p s = some (matchL (bytesOf p) (bytesOf s)) := by
  unfold barrowref02_Match.f matchL
  rw [bytesOf_length]
  by_cases h : 48 < p.size
  · rw [if_pos (by omega), if_pos h]
  · rw [if_neg (by omega), if_neg h]
    have e := rmatch_l0 p s (by omega) p.size 0 k (by omega) (by omega)
    rw [List.drop_zero] at e
    exact e
end Go.Proofs.YtmicghhmbojkfaaGreatDoor.PM
