/- Plain lemmas on patterns: what Match answers, read off the lists of the two texts' bytes. -/
import Derived.Test.YtmicghhmbojkfaaGreatDoorGx33
import Derived.Test.YtmicghhmbojkfaaGreatDoorSku
namespace Go.Proofs.YtmicghhmbojkfaaGreatDoor.PM
open Go.Proofs.YtmicghhmbojkfaaGreatDoor.G hiding bytesOf_length
open Go.RowKit Go.Proofs.YtmicghhmbojkfaaGreatDoorW.PrintWords Go.Proofs.YtmicghhmbojkfaaGreatDoorW.PrintLast

theorem good_eq (s : ByteArray) (k : Nat) (hk : 48 < k) : goods_Good.f k s = some ((checkL (bytesOf s)).2 == 0) := by
  unfold goods_Good.f
  rw [check_eq s k hk]
  rfl
theorem chk_len (l : List Int) (h : (checkL l).2 = 0) : l.length ≤ 24 := by
  unfold checkL at h
  by_cases h0 : l = []
  · subst h0; simp
  · rw [if_neg h0] at h
    by_cases h1 : 24 < l.length
    · rw [if_pos h1] at h; simp at h
    · omega

def fitsB (p c : Int) : Bool := if p = 63 then true else if p = 35 then digitI c else if p = 64 then letterI c else p == c
theorem fits_eq (p c : Int) : goods_fits.f p c = some (fitsB p c) := by
  unfold goods_fits.f fitsB
  rw [isDigit_eq, isLetter_eq]
  repeat' split
  all_goals rfl
def starRow (f : List Int → Bool) : List Int → Bool
  | [] => f []
  | c :: t => f (c :: t) || starRow f t
/-- The pattern and the text, both from the end on. -/
def fitR : List Int → List Int → Bool
  | [] => fun t => t.isEmpty
  | d :: p => if d = 42 then starRow (fitR p) else fun t => match t with | [] => false | c :: t' => fitR p t' && fitsB d c
def okPat (c : Int) : Bool := letterI c || digitI c || isMarkI c || decide (c = 42 ∨ c = 63 ∨ c = 35 ∨ c = 64)
def matchL (p s : List Int) : Bool × Int :=
  if 48 < p.length then (false, 21) else if p.all okPat = false then (false, 22) else if (checkL s).2 = 0 then (fitR p.reverse s.reverse, 0) else (false, 5)

theorem idx_sign (c : Int) (h0 : 0 ≤ c) (h1 : c ≤ 255) : ∃ r, strings_IndexByte.f (⟨#[42, 63, 35, 64]⟩ : ByteArray) c = some r ∧ (r < 0 ↔ ¬ (c = 42 ∨ c = 63 ∨ c = 35 ∨ c = 64)) := by
  refine ⟨_, rfl, ?_⟩
  have : ∀ n : Fin 256, (Lib.indexByte [42, 63, 35, 64] n.1.toUInt8 < 0 ↔ ¬ ((n.1 : Int) = 42 ∨ (n.1 : Int) = 63 ∨ (n.1 : Int) = 35 ∨ (n.1 : Int) = 64)) := by decide +kernel
  have := this ⟨c.toNat, by omega⟩
  simp only at this
  rw [show ((c.toNat : Int)) = c from by omega] at this
  exact this

/-- One entry of the next row. -/
def cellN (row : List Bool) (s : ByteArray) (p : Int) (prev : Bool) (j : Nat) : Bool :=
  if p = 42 then row.getD j false || (decide (0 < j) && prev) else decide (0 < j) && row.getD (j - 1) false && fitsB p (bt s ((j : Int) - 1))
theorem rdOf_nat (xs : List Bool) (j : Nat) : rdOf false xs (j : Int) = xs.getD j false := by unfold rdOf; rfl
theorem setnat (xs : List Bool) (j : Nat) (b : Bool) : xs.set ((j : Int)).toNat b = xs.set j b := rfl

/-- What the row is from j on, once j places of it are done. -/
def fillN (row : List Bool) (s : ByteArray) (p : Int) : Nat → Nat → List Bool → List Bool
  | 0, _, nx => nx
  | d + 1, j, nx => fillN row s p d (j + 1) (nx.set j (cellN row s p (nx.getD (j - 1) false) j))
theorem fillN_length (row : List Bool) (s : ByteArray) (p : Int) : ∀ d j nx, (fillN row s p d j nx).length = nx.length
  | 0, _, _ => rfl
  | d + 1, j, nx => by simp only [fillN]; rw [fillN_length]; simp

theorem match_l2 (x0 s : ByteArray) (x8 : List Bool) (i : Nat) (n : Int) (hi : i < x0.size) (hs : s.size ≤ 24) (h8 : x8.length = s.size + 1) : ∀ (d j k : Nat) (nx : List Bool), j + d = s.size + 1 → nx.length = s.size + 1 →
    goods_Match.l2 (k + d + 1) x0 s x8 i nx n i (s.size + 1 : Nat) j = goods_Match.l1 k x0 s (fillN x8 s (bt x0 i) d j nx) n (wrap64 ((i : Int) + 1))
  | 0, j, k, nx, hd, hn => by
    simp only [goods_Match.l2]
    rw [if_neg (by omega)]
    rfl
  | d + 1, j, k, nx, hd, hn => by
    have hw : wrap64 ((j : Int) + 1) = ((j + 1 : Nat) : Int) := by unfold wrap64; omega
    have ih : ∀ b, goods_Match.l2 (k + d + 1) x0 s x8 i (nx.set j b) n i (s.size + 1 : Nat) ((j + 1 : Nat) : Int) = goods_Match.l1 k x0 s (fillN x8 s (bt x0 i) d (j + 1) (nx.set j b)) n (wrap64 ((i : Int) + 1)) :=
      fun b => match_l2 x0 s x8 i n hi hs h8 d (j + 1) k (nx.set j b) (by omega) (by simpa using hn)
    have ek : k + (d + 1) + 1 = (k + d + 1) + 1 := by omega
    rw [ek]
    obtain ⟨K, hK⟩ : ∃ K, k + d + 1 = K := ⟨_, rfl⟩
    rw [hK] at ih ⊢
    clear ek hK
    simp only [goods_Match.l2, fillN]
    rw [if_pos (by omega), if_pos (by omega), if_pos (by omega)]
    have b1 : (0 : Int) ≤ (j : Int) := by omega
    have b2 : (j : Int) < (x8.length : Int) := by omega
    have b3 : (j : Int) < (nx.length : Int) := by omega
    rw [if_pos b1, if_pos b2, hw]
    simp only [if_pos b1, if_pos b3, rdOf_nat, setnat]
    by_cases hp : bt x0 i = 42
    · rw [if_pos hp]
      have hc : cellN x8 s (bt x0 i) (nx.getD (j - 1) false) j = (x8.getD j false || (decide (0 < j) && nx.getD (j - 1) false)) := by unfold cellN; rw [if_pos hp]
      rw [hc]
      by_cases h1 : x8.getD j false = true
      · rw [if_pos h1, h1, Bool.true_or, ih]
      · have h1' : x8.getD j false = false := by simpa using h1
        rw [if_neg h1, h1', Bool.false_or]
        by_cases h2 : 0 < j
        · have hw2 : wrap64 ((j : Int) - 1) = ((j - 1 : Nat) : Int) := by unfold wrap64; omega
          rw [if_pos (by omega), hw2, if_pos (by omega), if_pos (by omega), rdOf_nat, decide_eq_true h2, Bool.true_and, ih]
        · rw [if_neg (by omega), decide_eq_false h2, Bool.false_and, ih]
    · rw [if_neg hp]
      have hc : cellN x8 s (bt x0 i) (nx.getD (j - 1) false) j = (decide (0 < j) && x8.getD (j - 1) false && fitsB (bt x0 i) (bt s ((j : Int) - 1))) := by unfold cellN; rw [if_neg hp]
      rw [hc]
      by_cases h2 : 0 < j
      · have hw2 : wrap64 ((j : Int) - 1) = ((j - 1 : Nat) : Int) := by unfold wrap64; omega
        rw [if_pos (by omega), hw2, if_pos (by omega), if_pos (by omega), rdOf_nat, decide_eq_true h2, Bool.true_and]
        by_cases h3 : x8.getD (j - 1) false = true
        · rw [if_pos h3, if_pos (by omega), fits_eq, h3, Bool.true_and]
          simp only [Option.bind_some]
          rw [show (((j - 1 : Nat) : Int)) = (j : Int) - 1 from by omega, ih]
        · have h3' : x8.getD (j - 1) false = false := by simpa using h3
          rw [if_neg h3, h3', Bool.false_and, ih]
      · rw [if_neg (by omega), decide_eq_false h2, Bool.false_and, Bool.false_and, ih]

/-- The row that stands when the pattern's bytes so far are p (from the end on). -/
def rowOf (p : List Int) (s : List Int) (n : Nat) : List Bool := (List.range n).map fun j => fitR p (s.take j).reverse
theorem rowOf_length (p s : List Int) (n : Nat) : (rowOf p s n).length = n := by simp [rowOf]
theorem rowOf_getD (p s : List Int) (n j : Nat) (h : j < n) : (rowOf p s n).getD j false = fitR p (s.take j).reverse := by
  unfold rowOf
  rw [List.getD_eq_getElem?_getD, List.getElem?_map, List.getElem?_range h]
  rfl
theorem take_succ_rev (s : ByteArray) (j : Nat) (h : 0 < j) (hj : j ≤ s.size) : ((bytesOf s).take j).reverse = bt s ((j : Int) - 1) :: ((bytesOf s).take (j - 1)).reverse := by
  obtain ⟨m, rfl⟩ : ∃ m, j = m + 1 := ⟨j - 1, by omega⟩
  have hm : m < (bytesOf s).length := by rw [bytesOf_length]; omega
  rw [List.take_succ_eq_append_getElem hm, List.reverse_append]
  simp only [List.reverse_cons, List.reverse_nil, List.nil_append, List.cons_append, Nat.add_sub_cancel]
  rw [bt_getD, show (((m + 1 : Nat) : Int) - 1).toNat = m from by omega, List.getD_eq_getElem?_getD, List.getElem?_eq_getElem hm]
  rfl
theorem cell_fit (s : ByteArray) (p : List Int) (d : Int) (j : Nat) (hj : j ≤ s.size) :
    cellN (rowOf p (bytesOf s) (s.size + 1)) s d (decide (0 < j) && fitR (d :: p) ((bytesOf s).take (j - 1)).reverse) j = fitR (d :: p) ((bytesOf s).take j).reverse := by
  unfold cellN
  rw [rowOf_getD _ _ _ _ (by omega), rowOf_getD _ _ _ _ (by omega)]
  by_cases hd : d = 42
  · subst hd
    rw [if_pos rfl]
    by_cases h0 : 0 < j
    · rw [take_succ_rev s j h0 hj, decide_eq_true h0, Bool.true_and, Bool.true_and]
      simp only [fitR, if_true, starRow]
    · have : j = 0 := by omega
      subst this
      simp [fitR, starRow]
  · rw [if_neg hd]
    by_cases h0 : 0 < j
    · rw [take_succ_rev s j h0 hj, decide_eq_true h0, Bool.true_and]
      simp only [fitR, if_neg hd]
    · have : j = 0 := by omega
      subst this
      simp [fitR, if_neg hd]
/-- So far j places of the row are as they must be. -/
def partRow (p s : List Int) (n j : Nat) (nx : List Bool) : Prop := nx.length = n ∧ ∀ i, i < j → nx.getD i false = fitR p (s.take i).reverse
theorem fill_part (s : ByteArray) (p : List Int) (d : Int) : ∀ (m j : Nat) (nx : List Bool), j + m = s.size + 1 → partRow (d :: p) (bytesOf s) (s.size + 1) j nx →
    partRow (d :: p) (bytesOf s) (s.size + 1) (s.size + 1) (fillN (rowOf p (bytesOf s) (s.size + 1)) s d m j nx)
  | 0, j, nx, hm, h => by
    obtain rfl : j = s.size + 1 := by omega
    exact h
  | m + 1, j, nx, hm, ⟨h1, h2⟩ => by
    simp only [fillN]
    refine fill_part s p d m (j + 1) _ (by omega) ⟨by simpa using h1, fun i hi => ?_⟩
    rw [List.getD_eq_getElem?_getD, List.getElem?_set]
    by_cases e : j = i
    · subst e
      rw [if_pos rfl, if_pos (by omega)]
      show cellN _ s d _ j = _
      rw [← cell_fit s p d j (by omega)]
      by_cases h0 : 0 < j
      · rw [h2 (j - 1) (by omega), decide_eq_true h0, Bool.true_and]
      · have : j = 0 := by omega
        subst this
        unfold cellN
        simp
    · rw [if_neg e, ← List.getD_eq_getElem?_getD, h2 i (by omega)]
theorem part_all (p : List Int) (s : List Int) (n : Nat) (nx : List Bool) (h : partRow p s n n nx) : nx = rowOf p s n := by
  obtain ⟨h1, h2⟩ := h
  refine List.ext_getElem (by rw [h1, rowOf_length]) fun i hi hi2 => ?_
  have := h2 i (by omega)
  rw [← rowOf_getD p s n i (by omega), List.getD_eq_getElem?_getD, List.getD_eq_getElem?_getD, List.getElem?_eq_getElem hi, List.getElem?_eq_getElem hi2] at this
  simpa using this

theorem match_l1 (x0 s : ByteArray) (hs : s.size ≤ 24) (h0 : x0.size ≤ 48) : ∀ (d i k : Nat), i + d = x0.size → 30 * d < k →
    goods_Match.l1 k x0 s (rowOf ((bytesOf x0).take i).reverse (bytesOf s) (s.size + 1)) (x0.size : Int) i = some (fitR (bytesOf x0).reverse (bytesOf s).reverse, 0)
  | 0, i, k, hd, hk => by
    obtain ⟨k, rfl⟩ : ∃ m, k = m + 1 := ⟨k - 1, by omega⟩
    simp only [goods_Match.l1]
    rw [if_neg (by omega), if_pos (by omega), rowOf_length, if_pos (by omega), rdOf_nat, rowOf_getD _ _ _ _ (by omega)]
    rw [List.take_of_length_le (by rw [bytesOf_length]; omega), List.take_of_length_le (by rw [bytesOf_length]; omega)]
  | d + 1, i, k, hd, hk => by
    obtain ⟨k, rfl⟩ : ∃ m, k = m + (s.size + 1) + 1 + 1 := ⟨k - (s.size + 3), by omega⟩
    have hw : wrap64 ((s.size : Int) + 1) = ((s.size + 1 : Nat) : Int) := by unfold wrap64; omega
    have hw2 : wrap64 ((i : Int) + 1) = ((i + 1 : Nat) : Int) := by unfold wrap64; omega
    simp only [goods_Match.l1]
    rw [if_pos (by omega), hw, if_pos (by omega), if_pos (by omega), rowOf_length, show (((s.size + 1 : Nat) : Int)).toNat = s.size + 1 from rfl]
    have e2 := fun row hr nx hn => match_l2 x0 s row i (x0.size : Int) (by omega) hs hr (s.size + 1) 0 k nx (by omega) hn
    rw [show ((0 : Nat) : Int) = 0 from rfl] at e2
    rw [e2 _ (rowOf_length _ _ _) _ (by simp)]
    have := part_all _ _ _ _ (fill_part s ((bytesOf x0).take i).reverse (bt x0 i) (s.size + 1) 0 (List.replicate (s.size + 1) false) (by omega) ⟨by simp, fun i h => absurd h (by omega)⟩)
    rw [this, hw2, ← match_l1 x0 s hs h0 d (i + 1) k (by omega) (by omega)]
    rw [take_succ_rev x0 (i + 1) (by omega) (by omega), show (((i + 1 : Nat) : Int) - 1) = i from by omega, Nat.add_sub_cancel]

theorem row_start (s : ByteArray) (x0 : List Int) : ((List.replicate (((s.size + 1 : Nat) : Int)).toNat false).set (0 : Int).toNat true) = rowOf (x0.take 0).reverse (bytesOf s) (s.size + 1) := by
  rw [show (((s.size + 1 : Nat) : Int)).toNat = s.size + 1 from rfl, show (0 : Int).toNat = 0 from rfl]
  refine part_all _ _ _ _ ⟨by rw [List.length_set, List.length_replicate], fun i hi => ?_⟩
  rw [List.getD_eq_getElem?_getD, List.getElem?_set]
  by_cases e : i = 0
  · subst e
    rw [if_pos rfl, if_pos (by rw [List.length_replicate]; omega)]
    rfl
  · rw [if_neg (fun h => e h.symm), List.getElem?_replicate, if_pos hi]
    have hl : (bytesOf s).take i ≠ [] := by
      intro h
      have : ((bytesOf s).take i).length = 0 := by rw [h]; rfl
      rw [List.length_take, bytesOf_length] at this
      omega
    show false = (((bytesOf s).take i).reverse).isEmpty
    cases h : ((bytesOf s).take i).reverse with
    | nil => exact absurd (List.reverse_eq_nil_iff.1 h) hl
    | cons a b => rfl
theorem match_l0 (x0 s : ByteArray) (h0 : x0.size ≤ 48) (B : Nat) (hB : 1500 < B) (d : Nat) : ∀ (i k : Nat), i + d = x0.size → B + d < k →
    goods_Match.l0 k x0 s (x0.size : Int) i = some (if ((bytesOf x0).drop i).all okPat = false then (false, 22) else if (checkL (bytesOf s)).2 = 0 then (fitR (bytesOf x0).reverse (bytesOf s).reverse, 0) else (false, 5)) := by
  induction d with
  | zero =>
    intro i k hd hk
    obtain ⟨k, rfl⟩ : ∃ m, k = m + 1 := ⟨k - 1, by omega⟩
    have : (bytesOf x0).drop i = [] := List.drop_eq_nil_of_le (by rw [bytesOf_length]; omega)
    rw [this]
    simp only [goods_Match.l0]
    rw [if_neg (by omega), good_eq s k (by omega), Option.bind_some, List.all_nil, if_neg (show ¬ (true = false) by decide)]
    by_cases hc : (checkL (bytesOf s)).2 = 0
    · have hs := chk_len _ hc
      rw [bytesOf_length] at hs
      have hw : wrap64 ((s.size : Int) + 1) = ((s.size + 1 : Nat) : Int) := by unfold wrap64; omega
      rw [if_pos (by simpa using hc), if_pos hc, hw, if_pos (by omega), if_pos (by omega), Option.bind_some, if_pos (by rw [List.length_replicate]; omega)]
      rw [row_start s (bytesOf x0)]
      have e := match_l1 x0 s hs h0 x0.size 0 k (by omega) (by omega)
      rw [show ((0 : Nat) : Int) = 0 from rfl] at e
      rw [e]
    · rw [if_neg (by simpa using hc), if_neg hc]
  | succ d ihd =>
    intro i k hd hk
    obtain ⟨k, rfl⟩ : ∃ m, k = m + 1 := ⟨k - 1, by omega⟩
    have hw : wrap64 ((i : Int) + 1) = ((i + 1 : Nat) : Int) := by unfold wrap64; omega
    have ih := ihd (i + 1) k (by omega) (by omega)
    rw [bytesOf_drop x0 i (by omega), List.all_cons]
    simp only [goods_Match.l0]
    rw [if_pos (by omega), if_pos (by omega), if_pos (by omega), isLetter_eq, isDigit_eq, isMark_eq, hw, ih]
    simp only [Option.bind_some]
    obtain ⟨r, hr, hr2⟩ := idx_sign (bt x0 i) (bt_range x0 i).1 (bt_range x0 i).2
    rw [hr]
    simp only [Option.bind_some]
    unfold okPat
    by_cases h1 : letterI (bt x0 i) = true
    · rw [if_pos h1, h1]; simp
    · have h1' : letterI (bt x0 i) = false := by simpa using h1
      rw [if_neg h1, h1']
      by_cases h2 : digitI (bt x0 i) = true
      · rw [if_pos h2, h2]; simp
      · have h2' : digitI (bt x0 i) = false := by simpa using h2
        rw [if_neg h2, h2']
        by_cases h3 : isMarkI (bt x0 i) = true
        · rw [if_pos h3, h3]; simp
        · have h3' : isMarkI (bt x0 i) = false := by simpa using h3
          rw [if_neg h3, h3']
          by_cases h4 : r < 0
          · rw [if_pos h4, decide_eq_false (hr2.1 h4)]; simp
          · rw [if_neg h4, decide_eq_true (Classical.not_not.1 (fun h => h4 (hr2.2 h)))]; simp
theorem match_eq (p s : ByteArray) (k : Nat) (hk : 1700 < k) : goods_Match.f k p s = some (matchL (bytesOf p) (bytesOf s)) := by
  unfold goods_Match.f matchL
  rw [bytesOf_length]
  by_cases h : 48 < p.size
  · rw [if_pos (by omega), if_pos h]
  · rw [if_neg (by omega), if_neg h]
    have e := match_l0 p s (by omega) 1600 (by omega) p.size 0 k (by omega) (by omega)
    rw [show ((0 : Nat) : Int) = 0 from rfl, List.drop_zero] at e
    exact e
end Go.Proofs.YtmicghhmbojkfaaGreatDoor.PM
