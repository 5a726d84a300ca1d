import Derived.Test.YtlmdhpfggobogaaDoorQSt5
import Derived.Lib.ItoaNum
/- Decimal numerals as lists of bytes: the shortest one of a number; what a row of digits is worth; both ways back. The library's numeral. -/
namespace Go.Proofs.YtlmdhpfggobogaaDoor.Dec
open Go.RowKit Go.Proofs.YtlmdhpfggobogaaDoorW.PrintWords Go.Proofs.YtlmdhpfggobogaaDoorW.PrintLast
/-- The number that a row of digits writes. -/
def valFrom : Int → List Int → Int
  | a, [] => a
  | a, c :: t => valFrom (a * 10 + (c - 48)) t
def val (l : List Int) : Int := valFrom 0 l
/-- A number's digits, none for 0. -/
def sdig (n : Nat) : List Int := if n = 0 then [] else sdig (n / 10) ++ [48 + ((n % 10 : Nat) : Int)]
  termination_by n
  decreasing_by omega
theorem sdig_zero : sdig 0 = [] := by rw [sdig, if_pos rfl]
theorem sdig_pos {n : Nat} (h : 0 < n) : sdig n = sdig (n / 10) ++ [48 + ((n % 10 : Nat) : Int)] := by rw [sdig, if_neg (by omega)]
theorem sdig_dig (n : Nat) : ∀ c ∈ sdig n, 48 ≤ c ∧ c ≤ 57 := by
  induction n using Nat.strongRecOn with
  | _ n ih =>
    by_cases h : n = 0
    · subst h; rw [sdig_zero]; simp
    · rw [sdig_pos (by omega)]
      intro c hc
      rcases List.mem_append.1 hc with hc | hc
      · exact ih _ (by omega) c hc
      · simp at hc; omega
/-- A number in decimal. -/
def digs (n : Nat) : List Int := if n = 0 then [48] else sdig n
theorem digs_dig (n : Nat) : ∀ c ∈ digs n, 48 ≤ c ∧ c ≤ 57 := by
  unfold digs
  by_cases h : n = 0
  · rw [if_pos h]; intro c hc; simp at hc; omega
  · rw [if_neg h]; exact sdig_dig n
theorem digs_ne (n : Nat) : digs n ≠ [] := by
  unfold digs
  by_cases h : n = 0
  · rw [if_pos h]; simp
  · rw [if_neg h, sdig_pos (by omega)]; simp
theorem sdig_len (n : Nat) : ∀ e, n < 10 ^ e → (sdig n).length ≤ e := by
  induction n using Nat.strongRecOn with
  | _ n ih =>
    intro e he
    by_cases h : n = 0
    · subst h; rw [sdig_zero]; simp
    · rw [sdig_pos (by omega)]
      cases e with
      | zero => simp at he; omega
      | succ e =>
        have := ih (n / 10) (by omega) e (by rw [Nat.div_lt_iff_lt_mul (by decide)]; rw [← Nat.pow_succ]; exact he)
        simp
        omega
theorem bytesOf_str (l : List Int) (h : ∀ c ∈ l, 0 ≤ c ∧ c ≤ 255) : bytesOf (strOfNums l) = l := by
  unfold bytesOf strOfNums
  simp only [List.map_map]
  conv => rhs; rw [← List.map_id l]
  refine List.map_congr_left fun c hc => ?_
  have := h c hc
  simp only [Function.comp, id]
  rw [UInt8.toNat_ofNat']
  omega
theorem decDigits_digs (n : Nat) : ((Lib.decDigits n).map fun c => (c.toNat : Int)) = digs n := by
  induction n using Nat.strongRecOn with
  | _ n ih =>
    rw [Lib.decDigits]
    by_cases h : n < 10
    · rw [dif_pos h]
      unfold digs
      have hb : ((UInt8.ofNat (48 + n)).toNat : Int) = 48 + (n : Int) := by rw [UInt8.toNat_ofNat']; omega
      by_cases h0 : n = 0
      · rw [if_pos h0]; subst h0; rfl
      · rw [if_neg h0, sdig_pos (by omega), show n / 10 = 0 from by omega, sdig_zero, show n % 10 = n from by omega, List.map_singleton, hb]; rfl
    · rw [dif_neg h, List.map_append, ih (n / 10) (by omega), List.map_singleton]
      have hb : ((UInt8.ofNat (48 + n % 10)).toNat : Int) = 48 + ((n % 10 : Nat) : Int) := by rw [UInt8.toNat_ofNat']; omega
      rw [hb]
      unfold digs
      rw [if_neg (by omega), if_neg (by omega), sdig_pos (n := n) (by omega)]
theorem valFrom_append : ∀ (l m : List Int) (a : Int), valFrom a (l ++ m) = valFrom (valFrom a l) m
  | [], _, _ => rfl
  | c :: t, m, a => by rw [List.cons_append, valFrom, valFrom, valFrom_append t m]
theorem val_sdig (n : Nat) : valFrom 0 (sdig n) = n := by
  induction n using Nat.strongRecOn with
  | _ n ih =>
    by_cases h : n = 0
    · subst h; rw [sdig_zero]; rfl
    · rw [sdig_pos (by omega), valFrom_append, ih (n / 10) (by omega)]
      simp only [valFrom]
      omega
theorem val_digs (n : Nat) : val (digs n) = n := by
  unfold val digs
  by_cases h : n = 0
  · rw [if_pos h]; subst h; rfl
  · rw [if_neg h, val_sdig]
theorem bt_getD (s : ByteArray) (i : Int) : bt s i = (bytesOf s).getD i.toNat 0 := by
  unfold bt bytesOf
  by_cases h : i.toNat < s.size
  · rw [dif_pos h, List.getD_eq_getElem?_getD, List.getElem?_map]
    rw [List.getElem?_eq_getElem (by simpa using h)]
    rfl
  · rw [dif_neg h, List.getD_eq_getElem?_getD, List.getElem?_eq_none (by simp; omega)]
    rfl
end Go.Proofs.YtlmdhpfggobogaaDoor.Dec
