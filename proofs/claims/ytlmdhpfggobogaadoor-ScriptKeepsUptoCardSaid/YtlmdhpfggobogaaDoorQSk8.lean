import Derived.Test.YtlmdhpfggobogaaDoorQSk5
import Derived.Lib.ItoaNum
namespace Go.Proofs.YtlmdhpfggobogaaDoor.Dec
open Go.RowKit Go.Proofs.YtlmdhpfggobogaaDoorW.PrintWords Go.Proofs.YtlmdhpfggobogaaDoorW.PrintLast
def dig (c : Int) : Bool := decide (48 ≤ c ∧ c ≤ 57)
theorem dig_iff {c : Int} : dig c = true ↔ 48 ≤ c ∧ c ≤ 57 := by unfold dig; simp
def valFrom : Int → List Int → Int
  | a, [] => a
  | a, c :: t => valFrom (a * 10 + (c - 48)) t
def val (l : List Int) : Int := valFrom 0 l
def sdig (n : Nat) : List Int := if n = 0 then [] else sdig (n / 10) ++ [48 + ((n % 10 : Nat) : Int)]
  termination_by n
  decreasing_by omega
theorem sdig_zero : sdig 0 = [] := by rw [sdig, if_pos rfl]
theorem sdig_pos {n : Nat} (h : 0 < n) : sdig n = sdig (n / 10) ++ [48 + ((n % 10 : Nat) : Int)] := by rw [sdig, if_neg (by omega)]
theorem sdig_dig (n : Nat) : ∀ c ∈ sdig n, 48 ≤ c ∧ c ≤ 57 := by
  induction n using Nat.strongRecOn with
  | _ n ih =>
    by_cases h : n = 0
    · subst h; rw [sdig_zero]; simp
    · rw [sdig_pos (by omega)]
      intro c hc
      rcases List.mem_append.1 hc with hc | hc
      · exact ih _ (by omega) c hc
      · simp at hc; omega
theorem sdig_head (n : Nat) : ∀ c t, sdig n = c :: t → c ≠ 48 := by
  induction n using Nat.strongRecOn with
  | _ n ih =>
    intro c t h
    by_cases h0 : n = 0
    · subst h0; rw [sdig_zero] at h; cases h
    · rw [sdig_pos (by omega)] at h
      by_cases h1 : n / 10 = 0
      · rw [h1, sdig_zero] at h
        injection h with h _
        omega
      · cases hs : sdig (n / 10) with
        | nil => rw [sdig_pos (by omega)] at hs; simp at hs
        | cons d u =>
          rw [hs] at h
          injection h with h _
          rw [← h]
          exact ih _ (by omega) d u hs
def digs (n : Nat) : List Int := if n = 0 then [48] else sdig n
theorem digs_dig (n : Nat) : ∀ c ∈ digs n, 48 ≤ c ∧ c ≤ 57 := by
  unfold digs
  by_cases h : n = 0
  · rw [if_pos h]; intro c hc; simp at hc; omega
  · rw [if_neg h]; exact sdig_dig n
theorem digs_ne (n : Nat) : digs n ≠ [] := by
  unfold digs
  by_cases h : n = 0
  · rw [if_pos h]; simp
  · rw [if_neg h, sdig_pos (by omega)]; simp
theorem sdig_len (n : Nat) : ∀ e, n < 10 ^ e → (sdig n).length ≤ e := by
  induction n using Nat.strongRecOn with
  | _ n ih =>
    intro e he
    by_cases h : n = 0
    · subst h; rw [sdig_zero]; simp
    · rw [sdig_pos (by omega)]
      cases e with
      | zero => simp at he; omega
      | succ e =>
        have := ih (n / 10) (by omega) e (by rw [Nat.div_lt_iff_lt_mul (by decide)]; rw [← Nat.pow_succ]; exact he)
        simp
        omega
theorem bytesOf_str (l : List Int) (h : ∀ c ∈ l, 0 ≤ c ∧ c ≤ 255) : bytesOf (strOfNums l) = l := by
  unfold bytesOf strOfNums
  simp only [List.map_map]
  conv => rhs; rw [← List.map_id l]
  refine List.map_congr_left fun c hc => ?_
  have := h c hc
  simp only [Function.comp, id]
  rw [UInt8.toNat_ofNat']
  omega
theorem decDigits_digs (n : Nat) : ((Lib.decDigits n).map fun c => (c.toNat : Int)) = digs n := by
  induction n using Nat.strongRecOn with
  | _ n ih =>
    rw [Lib.decDigits]
    by_cases h : n < 10
    · rw [dif_pos h]
      unfold digs
      have hb : ((UInt8.ofNat (48 + n)).toNat : Int) = 48 + (n : Int) := by rw [UInt8.toNat_ofNat']; omega
      by_cases h0 : n = 0
      · rw [if_pos h0]; subst h0; rfl
      · rw [if_neg h0, sdig_pos (by omega), show n / 10 = 0 from by omega, sdig_zero, show n % 10 = n from by omega, List.map_singleton, hb]; rfl
    · rw [dif_neg h, List.map_append, ih (n / 10) (by omega), List.map_singleton]
      have hb : ((UInt8.ofNat (48 + n % 10)).toNat : Int) = 48 + ((n % 10 : Nat) : Int) := by rw [UInt8.toNat_ofNat']; omega
      rw [hb]
      unfold digs
      rw [if_neg (by omega), if_neg (by omega), sdig_pos (n := n) (by omega)]
theorem valFrom_append : ∀ (l m : List Int) (a : Int), valFrom a (l ++ m) = valFrom (valFrom a l) m
  | [], _, _ => rfl
  | c :: t, m, a => by rw [List.cons_append, valFrom, valFrom, valFrom_append t m]
theorem val_sdig (n : Nat) : valFrom 0 (sdig n) = n := by
  induction n using Nat.strongRecOn with
  | _ n ih =>
    by_cases h : n = 0
    · subst h; rw [sdig_zero]; rfl
    · rw [sdig_pos (by omega), valFrom_append, ih (n / 10) (by omega)]
      simp only [valFrom]
      omega
theorem val_digs (n : Nat) : val (digs n) = n := by
  unfold val digs
  by_cases h : n = 0
  · rw [if_pos h]; subst h; rfl
  · rw [if_neg h, val_sdig]
theorem sdig_val : ∀ (l : List Int) (a : Nat), l.all dig = true → (a = 0 → l.headD 1 ≠ 48) → ∃ n : Nat, valFrom a l = n ∧ sdig n = sdig a ++ l
  | [], a, _, _ => ⟨a, rfl, by simp⟩
  | c :: t, a, hd, h0 => by
    simp only [List.all_cons, Bool.and_eq_true] at hd
    have hc := dig_iff.1 hd.1
    have hpos : 0 < a * 10 + (c - 48).toNat := by
      by_cases ha : a = 0
      · have := h0 ha
        simp at this
        omega
      · omega
    obtain ⟨n, hn, hs⟩ := sdig_val t (a * 10 + (c - 48).toNat) hd.2 (fun e => absurd e (by omega))
    refine ⟨n, ?_, ?_⟩
    · rw [valFrom, ← hn]
      congr 1
      omega
    · rw [hs, sdig_pos hpos, show (a * 10 + (c - 48).toNat) / 10 = a from by omega, show ((48 : Int) + (((a * 10 + (c - 48).toNat) % 10 : Nat) : Int)) = c from by omega]
      simp [List.append_assoc]
theorem digs_val (l : List Int) (hne : l ≠ []) (hd : l.all dig = true) (h0 : ¬ (l.headD 0 = 48 ∧ 1 < l.length)) : ∃ n : Nat, val l = n ∧ digs n = l := by
  by_cases h48 : l.headD 0 = 48
  · have hl : l.length = 1 := by
      have : 0 < l.length := List.length_pos_iff.2 hne
      have : ¬ 1 < l.length := fun h => h0 ⟨h48, h⟩
      omega
    match l, hl with
    | [c], _ =>
      simp at h48
      subst h48
      exact ⟨0, rfl, rfl⟩
  · obtain ⟨n, hn, hs⟩ := sdig_val l 0 hd (fun _ => by
      cases l with
      | nil => exact absurd rfl hne
      | cons c t => simpa using h48)
    refine ⟨n, hn, ?_⟩
    rw [sdig_zero, List.nil_append] at hs
    unfold digs
    rw [if_neg, hs]
    intro e
    subst e
    rw [sdig_zero] at hs
    exact hne hs.symm
theorem bt_getD (s : ByteArray) (i : Int) : bt s i = (bytesOf s).getD i.toNat 0 := by
  unfold bt bytesOf
  by_cases h : i.toNat < s.size
  · rw [dif_pos h, List.getD_eq_getElem?_getD, List.getElem?_map]
    rw [List.getElem?_eq_getElem (by simpa using h)]
    rfl
  · rw [dif_neg h, List.getD_eq_getElem?_getD, List.getElem?_eq_none (by simp; omega)]
    rfl
end Go.Proofs.YtlmdhpfggobogaaDoor.Dec
