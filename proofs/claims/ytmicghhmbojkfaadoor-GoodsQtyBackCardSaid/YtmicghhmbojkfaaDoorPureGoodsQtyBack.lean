/- GoodsQtyBack: print and parse of quantities are one another's way back. For every number and text; no condition. -/
import Derived.Test.YtmicghhmbojkfaaDoorGx10
import Derived.Test.YtmicghhmbojkfaaDoorPureGoodsByNumber
namespace Go.Proofs.YtmicghhmbojkfaaDoor.Pure
open Go.RowKit Go.Proofs.YtmicghhmbojkfaaDoor.G Go.Proofs.YtmicghhmbojkfaaDoor.Ord Go.Proofs.YtmicghhmbojkfaaDoorW.PrintWords Go.Proofs.YtmicghhmbojkfaaDoorW.PrintLast
theorem decDigits_digs (n : Nat) : ((Lib.decDigits n).map fun c => (c.toNat : Int)) = digs n := by
  induction n using Nat.strongRecOn with
  | _ n ih =>
    rw [Lib.decDigits]
    by_cases h : n < 10
    · rw [dif_pos h]
      unfold digs
      have hb : ((UInt8.ofNat (48 + n)).toNat : Int) = 48 + (n : Int) := by rw [UInt8.toNat_ofNat']; omega
      by_cases h0 : n = 0
      · rw [if_pos h0]; subst h0; rfl
      · rw [if_neg h0, sdig_pos (by omega), show n / 10 = 0 from by omega, sdig_zero, show n % 10 = n from by omega, List.map_singleton, hb]; rfl
    · rw [dif_neg h, List.map_append, ih (n / 10) (by omega), List.map_singleton]
      have hb : ((UInt8.ofNat (48 + n % 10)).toNat : Int) = 48 + ((n % 10 : Nat) : Int) := by rw [UInt8.toNat_ofNat']; omega
      rw [hb]
      unfold digs
      rw [if_neg (by omega), if_neg (by omega), sdig_pos (n := n) (by omega)]
theorem itoa_eq (n : Nat) (h : n ≤ 9223372036854775807) : ∃ r, strconv_Itoa.f (n : Int) = some r ∧ bytesOf r = digs n := by
  refine ⟨_, by unfold strconv_Itoa.f; rw [if_pos ⟨by omega, by omega⟩], ?_⟩
  unfold bytesOf Lib.itoa
  rw [if_neg (by omega), Int.toNat_natCast]
  exact decDigits_digs n
theorem printQty_ok (n : Nat) (h1 : 1 ≤ n) (h2 : n ≤ 1000000) : ∃ r, goods_PrintQty.f (n : Int) = some (r, 0) ∧ bytesOf r = digs n := by
  obtain ⟨r, hr, hb⟩ := itoa_eq n (by omega)
  refine ⟨r, ?_, hb⟩
  unfold goods_PrintQty.f
  rw [if_neg (by omega), if_neg (by omega), hr, Option.bind_some]
theorem printQty_no (n : Int) (h : ¬ (1 ≤ n ∧ n ≤ 1000000)) : goods_PrintQty.f n = some ((⟨#[]⟩ : ByteArray), 6) := by
  unfold goods_PrintQty.f
  by_cases h1 : n < 1
  · rw [if_pos h1]
  · rw [if_neg h1, if_pos (by omega)]
theorem valFrom_append : ∀ (l m : List Int) (a : Int), valFrom a (l ++ m) = valFrom (valFrom a l) m
  | [], _, _ => rfl
  | c :: t, m, a => by rw [List.cons_append, valFrom, valFrom, valFrom_append t m]
theorem val_sdig (n : Nat) : valFrom 0 (sdig n) = n := by
  induction n using Nat.strongRecOn with
  | _ n ih =>
    by_cases h : n = 0
    · subst h; rw [sdig_zero]; rfl
    · rw [sdig_pos (by omega), valFrom_append, ih (n / 10) (by omega)]
      simp only [valFrom]
      omega
theorem val_digs (n : Nat) : val (digs n) = n := by
  unfold val digs
  by_cases h : n = 0
  · rw [if_pos h]; subst h; rfl
  · rw [if_neg h, val_sdig]
/-- A text of digits without a 0 in front is its number's text. -/
theorem sdig_val : ∀ (l : List Int) (a : Nat), l.all dig = true → (a = 0 → l.headD 1 ≠ 48) → ∃ n : Nat, valFrom a l = n ∧ sdig n = sdig a ++ l
  | [], a, _, _ => ⟨a, rfl, by simp⟩
  | c :: t, a, hd, h0 => by
    simp only [List.all_cons, Bool.and_eq_true] at hd
    have hc := dig_iff.1 hd.1
    have hpos : 0 < a * 10 + (c - 48).toNat := by
      by_cases ha : a = 0
      · have := h0 ha
        simp at this
        omega
      · omega
    obtain ⟨n, hn, hs⟩ := sdig_val t (a * 10 + (c - 48).toNat) hd.2 (fun e => absurd e (by omega))
    refine ⟨n, ?_, ?_⟩
    · rw [valFrom, ← hn]
      congr 1
      omega
    · rw [hs, sdig_pos hpos, show (a * 10 + (c - 48).toNat) / 10 = a from by omega, show ((48 : Int) + (((a * 10 + (c - 48).toNat) % 10 : Nat) : Int)) = c from by omega]
      simp [List.append_assoc]
theorem digs_val (l : List Int) (hne : l ≠ []) (hd : l.all dig = true) (h0 : ¬ (l.headD 0 = 48 ∧ 1 < l.length)) : ∃ n : Nat, val l = n ∧ digs n = l := by
  by_cases h48 : l.headD 0 = 48
  · have hl : l.length = 1 := by
      have : 0 < l.length := List.length_pos_iff.2 hne
      have : ¬ 1 < l.length := fun h => h0 ⟨h48, h⟩
      omega
    match l, hl with
    | [c], _ =>
      simp at h48
      subst h48
      exact ⟨0, rfl, rfl⟩
  · obtain ⟨n, hn, hs⟩ := sdig_val l 0 hd (fun _ => by
      cases l with
      | nil => exact absurd rfl hne
      | cons c t => simpa using h48)
    refine ⟨n, hn, ?_⟩
    rw [sdig_zero, List.nil_append] at hs
    unfold digs
    rw [if_neg, hs]
    intro e
    subst e
    rw [sdig_zero] at hs
    exact hne hs.symm
theorem parse_digs (n : Nat) (h1 : 1 ≤ n) (h2 : n ≤ 1000000) : qtyL (digs n) = ((n : Int), 0) := by
  have hlen : (digs n).length ≤ 7 := by
    unfold digs
    rw [if_neg (by omega)]
    exact sdig_len n 7 (by omega)
  have hd : (digs n).all dig = true := by
    rw [List.all_eq_true]; exact fun c hc => dig_iff.2 (digs_dig n c hc)
  have hh : ¬ (digs n).headD 0 = 48 := by
    unfold digs
    rw [if_neg (by omega)]
    cases hs : sdig n with
    | nil => simp
    | cons c t => simpa using sdig_head n c t hs
  unfold qtyL
  rw [if_neg (digs_ne n), if_neg (by omega), if_neg (fun e => e.elim (fun e => by rw [hd] at e; cases e) (fun e => hh e.1)), val_digs, if_neg (by omega)]
theorem qty_shape (l : List Int) (h : (qtyL l).2 = 0) : ∃ n : Nat, (qtyL l).1 = n ∧ 1 ≤ n ∧ n ≤ 1000000 ∧ digs n = l := by
  unfold qtyL at *
  by_cases h0 : l = []
  · rw [if_pos h0] at h; simp at h
  · rw [if_neg h0] at h ⊢
    by_cases h1 : 7 < l.length
    · rw [if_pos h1] at h; simp at h
    · rw [if_neg h1] at h ⊢
      by_cases h2 : l.all dig = false ∨ (l.headD 0 = 48 ∧ 1 < l.length)
      · rw [if_pos h2] at h; simp at h
      · rw [if_neg h2] at h ⊢
        by_cases h3 : val l < 1 ∨ 1000000 < val l
        · rw [if_pos h3] at h; simp at h
        · rw [if_neg h3]
          obtain ⟨n, hn, hs⟩ := digs_val l h0 (by
            by_cases e : l.all dig = true
            · exact e
            · exact absurd (.inl (by simpa using e)) h2) (fun e => h2 (.inr e))
          exact ⟨n, hn, by omega, by omega, hs⟩
theorem qty_no (l : List Int) (h : (qtyL l).2 ≠ 0) : (qtyL l).1 = 0 := by
  unfold qtyL at *
  by_cases h0 : l = []
  · rw [if_pos h0]
  · rw [if_neg h0] at h ⊢
    by_cases h1 : 7 < l.length
    · rw [if_pos h1]
    · rw [if_neg h1] at h ⊢
      by_cases h2 : l.all dig = false ∨ (l.headD 0 = 48 ∧ 1 < l.length)
      · rw [if_pos h2]
      · rw [if_neg h2] at h ⊢
        by_cases h3 : val l < 1 ∨ 1000000 < val l
        · rw [if_pos h3]
        · rw [if_neg h3] at h; exact absurd rfl h
theorem qty_j2 (t : ByteArray) (k : Nat) : barrowlaw02_GoodsQtyBack.j2 (k + 1) t = some true := by
  rw [barrowlaw02_GoodsQtyBack.j2]
  unfold goods_ParseQty.f
  rw [Option.bind_some]
  by_cases h : (qtyL (bytesOf t)).2 = 0
  · obtain ⟨n, hn, h1, h2, hs⟩ := qty_shape _ h
    obtain ⟨r, hr, hb⟩ := printQty_ok n h1 h2
    rw [if_pos h, hn, hr, Option.bind_some, if_pos rfl]
    have : r = t := bytesOf_inj (by rw [hb, hs])
    rw [this]
    simp
  · rw [if_neg h, qty_no _ h]; rfl
theorem GoodsQtyBack (n : Int) (t : ByteArray) : ∃ k, barrowlaw02_GoodsQtyBack.f k n t = some true := by
  refine ⟨50, ?_⟩
  unfold barrowlaw02_GoodsQtyBack.f
  obtain ⟨r, hr, hb⟩ := printQty_ok 907 (by omega) (by omega)
  have hr' : goods_PrintQty.f 907 = some (r, 0) := hr
  have hd : digs 907 = [57, 48, 55] := by decide +kernel
  have hrl : r = (⟨#[57, 48, 55]⟩ : ByteArray) := bytesOf_inj (by rw [hb, hd]; rfl)
  rw [hr', Option.bind_some, if_pos (by rw [hrl, ByteArray.toList_eq]), barrowlaw02_GoodsQtyBack.j0, if_neg (by simp)]
  by_cases h : 1 ≤ n ∧ n ≤ 1000000
  · obtain ⟨m, rfl⟩ : ∃ q : Nat, n = q := ⟨n.toNat, by omega⟩
    obtain ⟨s, hs, hsb⟩ := printQty_ok m (by omega) (by omega)
    obtain ⟨d, hd1, hd2⟩ := decimal_eq m (by omega) 0 48 (by omega)
    rw [hs, Option.bind_some, if_pos (by omega), decide_eq_true (by omega), barrowlaw02_GoodsQtyBack.j1, if_pos rfl]
    unfold goods_ParseQty.f
    have hm : ((m : Int) % 4294967296) = m := by omega
    rw [Option.bind_some, hsb, parse_digs m (by omega) (by omega), if_pos rfl, if_pos rfl, if_pos rfl, hm, hd1, Option.bind_some, if_pos, qty_j2]
    have : s = d := bytesOf_inj (by rw [hsb, hd2]; simp)
    rw [this]
  · rw [printQty_no n h, Option.bind_some]
    by_cases h1 : n ≥ 1
    · rw [if_pos h1, decide_eq_false (by omega), barrowlaw02_GoodsQtyBack.j1, if_neg (by decide), if_pos (by rw [ByteArray.toList_eq]), if_pos rfl, qty_j2]
    · rw [if_neg h1, barrowlaw02_GoodsQtyBack.j1, if_neg (by decide), if_pos (by rw [ByteArray.toList_eq]), if_pos rfl, qty_j2]
end Go.Proofs.YtmicghhmbojkfaaDoor.Pure
