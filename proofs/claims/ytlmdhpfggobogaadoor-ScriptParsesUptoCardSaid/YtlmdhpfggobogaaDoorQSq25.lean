import Derived.Test.YtlmdhpfggobogaaDoorQSq23
import Derived.Test.YtlmdhpfggobogaaDoorQSq5
import Derived.Test.YtlmdhpfggobogaaDoorQSq6
import Derived.Lib.ParseIntBTie
import Derived.Test.YtlmdhpfggobogaaDoorQSq7
namespace Go.Proofs.YtlmdhpfggobogaaDoor.G
open Go.RowKit Go.Proofs.YtlmdhpfggobogaaDoorW.PrintWords Go.Proofs.YtlmdhpfggobogaaDoorW.PrintLast
open Go.Proofs.YtlmdhpfggobogaaDoor.Dec (digs sdig sdig_head dig dig_iff val val_digs digs_dig digs_ne digs_val valFrom decDigits_digs)
set_option linter.unusedVariables false
def numR (s : ByteArray) : Option Int := if (rdNum s).2 = true then some (rdNum s).1 else none
theorem numR_some (s : ByteArray) (v : Int) (h : inI v) (hs : bytesOf s = numI v) : numR s = some v := by
  have e : s = itoaB v := bytesOf_inj (by rw [itoa_bytes, hs])
  have h1 := readNumber_itoa v h
  unfold script_readNumber.f at h1
  have hl := numI_len v h
  rw [← itoa_bytes, bytesOf_length] at hl
  rw [if_pos (by omega)] at h1
  have h2 := Option.some.inj h1
  subst e
  unfold numR
  rw [h2, if_pos rfl]
theorem numR_none (s : ByteArray) (h : ∀ v, inI v → bytesOf s ≠ numI v) : numR s = none := by
  unfold numR rdNum
  cases hp : Lib.parseIntB 64 s.data.toList with
  | ok v =>
    have hb := Lib.parseIntB_bounds hp
    rw [two63] at hb
    have hv : inI v := by unfold inI; omega
    dsimp only
    have hne : ((itoaB v).toList == s.toList) = false := by
      rw [beq_eq_false_iff_ne]
      intro e
      apply h v hv
      rw [ByteArray.toList_eq, ByteArray.toList_eq] at e
      rw [← itoa_bytes]
      unfold bytesOf
      rw [e]
    exact if_neg (by rw [hne]; decide)
  | range => rfl
  | _ => rfl
def outN : Option Int → Int × Bool
  | some v => (v, true)
  | none => (0, false)
theorem digs_48 (n : Nat) (t : List Int) (h : digs n = 48 :: t) : n = 0 := by
  by_cases h0 : n = 0
  · exact h0
  · exfalso
    have e : digs n = sdig n := by unfold Dec.digs; rw [if_neg h0]
    rw [e] at h
    exact sdig_head n 48 t h rfl
theorem numI_shape (neg : Bool) (d : List Int) (v : Int) (hd : neg = false → d.headD 0 ≠ 45) (h : (if neg = true then 45 :: d else d) = numI v) : ∃ n : Nat, d = digs n ∧ v = (if neg = true then -(n : Int) else n) ∧ (neg = true → 0 < n) := by
  have h45 : ∀ (m : Nat) t, digs m ≠ 45 :: t := fun m t e => by
    have := digs_dig m 45 (by rw [e]; simp)
    omega
  unfold numI at h
  cases neg with
  | true =>
    rw [if_pos rfl] at h
    by_cases hv : v < 0
    · rw [if_pos hv, List.cons.injEq] at h
      exact ⟨v.natAbs, h.2, by rw [if_pos rfl]; omega, fun _ => by omega⟩
    · rw [if_neg hv] at h
      exact absurd h.symm (h45 _ _)
  | false =>
    rw [if_neg (by decide)] at h
    by_cases hv : v < 0
    · rw [if_pos hv] at h
      exact absurd (by rw [h]; rfl) (hd rfl)
    · rw [if_neg hv] at h
      exact ⟨v.natAbs, h, by rw [if_neg (by decide)]; omega, fun e => by cases e⟩
theorem tdiv_neg (x : Nat) : Int.tdiv (-(x : Int)) 10 = -((x / 10 : Nat) : Int) := by
  rw [Int.neg_tdiv, Int.tdiv_eq_ediv_of_nonneg (by omega)]; omega
theorem numberOf_l0 (neg : Bool) (t : ByteArray) (ht : t.size ≤ 19) : ∀ (d i m : Nat), i + d = t.size → m ≤ 9223372036854775808 →
    Ev (fun k => barrowref24_numberOf.l0 k neg t (-(m : Int)) i) (if ((bytesOf t).drop i).all dig = true ∧ valFrom m ((bytesOf t).drop i) ≤ 9223372036854775808 ∧ ¬ (neg = false ∧ valFrom m ((bytesOf t).drop i) = 9223372036854775808) then (if neg = true then -(valFrom m ((bytesOf t).drop i)) else valFrom m ((bytesOf t).drop i), true) else (0, false))
  | 0, i, m, hd, hm => by
    rw [List.drop_eq_nil_of_le (by rw [bytesOf_length]; omega)]
    simp only [List.all_nil, valFrom, true_and]
    by_cases hn : neg = true
    · rw [if_pos ⟨by omega, fun e => by rw [hn] at e; cases e.1⟩]
      refine Ev.step (f := fun _ => some (-(m : Int), true)) (fun k => ?_) (by rw [if_pos hn]; exact Ev.now _)
      simp only [barrowref24_numberOf.l0]
      rw [if_neg (by omega), if_pos hn]
    · have hn2 : neg = false := by simpa using hn
      by_cases h63 : (m : Int) = 9223372036854775808
      · rw [if_neg (fun e => e.2 ⟨hn2, h63⟩)]
        refine Ev.step (f := fun _ => some (0, false)) (fun k => ?_) (Ev.now _)
        simp only [barrowref24_numberOf.l0]
        rw [if_neg (by omega), if_neg hn, if_pos (by omega)]
      · rw [if_pos ⟨by omega, fun e => h63 e.2⟩]
        refine Ev.step (f := fun _ => some ((m : Int), true)) (fun k => ?_) (by rw [if_neg hn]; exact Ev.now _)
        simp only [barrowref24_numberOf.l0]
        rw [if_neg (by omega), if_neg hn, if_neg (by omega), Int.neg_neg, w64 (by omega) (by omega)]
  | d + 1, i, m, hd, hm => by
    have hr := bt_range t i
    rw [bytesOf_drop t i (by omega)]
    have fail : ∀ (g : Nat → Option (Int × Bool)), (∀ k, g k = some (0, false)) → ¬ ((bt t i :: (bytesOf t).drop (i + 1)).all dig = true ∧ valFrom m (bt t i :: (bytesOf t).drop (i + 1)) ≤ 9223372036854775808 ∧ ¬ (neg = false ∧ valFrom m (bt t i :: (bytesOf t).drop (i + 1)) = 9223372036854775808)) →
        Ev g (if (bt t i :: (bytesOf t).drop (i + 1)).all dig = true ∧ valFrom m (bt t i :: (bytesOf t).drop (i + 1)) ≤ 9223372036854775808 ∧ ¬ (neg = false ∧ valFrom m (bt t i :: (bytesOf t).drop (i + 1)) = 9223372036854775808) then (if neg = true then -(valFrom m (bt t i :: (bytesOf t).drop (i + 1))) else valFrom m (bt t i :: (bytesOf t).drop (i + 1)), true) else (0, false)) := by
      intro g hg hn
      rw [if_neg hn]
      exact Ev.congr hg (Ev.now _)
    by_cases hc : 48 ≤ bt t i ∧ bt t i ≤ 57
    · have st1 : ∀ k, barrowref24_numberOf.l0 (k + 1) neg t (-(m : Int)) i = barrowref24_numberOf.j4 k neg t (-(m : Int)) i false := by
        intro k
        simp only [barrowref24_numberOf.l0]
        rw [if_pos (by omega), if_pos (by omega), if_neg (by omega), show decide (bt t i > 57) = false from decide_eq_false (by omega)]
      obtain ⟨q, hq, hq9⟩ : ∃ q : Nat, bt t i = 48 + (q : Int) ∧ q ≤ 9 := ⟨(bt t i - 48).toNat, by omega, by omega⟩
      have hk : (bt t i - 48) % 256 = (q : Int) := by omega
      have e1 : (-9223372036854775808 : Int) + (q : Int) = -((9223372036854775808 - q : Nat) : Int) := by omega
      by_cases hbig : 9223372036854775808 < 10 * m + q
      · have := valFrom_ge ((bytesOf t).drop (i + 1)) ((m : Int) * 10 + (bt t i - 48)) (by omega)
        refine Ev.step st1 (Ev.step (f := fun _ => some (0, false)) (fun k => ?_) ?_)
        · simp only [barrowref24_numberOf.j4]
          rw [if_neg (by decide), if_pos (by omega), if_pos (by omega), hk, e1, tdiv_neg, if_pos (by omega)]
        · refine fail _ (fun _ => rfl) (fun hh => ?_)
          have hall := hh.1
          rw [List.all_cons, Bool.and_eq_true] at hall
          have h3 := this (fun c hc => (dig_iff.1 (List.all_eq_true.1 hall.2 c hc)).1)
          have h4 := hh.2.1
          rw [valFrom] at h4
          omega
      · have ih := numberOf_l0 neg t ht d (i + 1) (10 * m + q) (by omega) (by omega)
        have ev : valFrom (m : Int) (bt t i :: (bytesOf t).drop (i + 1)) = valFrom ((10 * m + q : Nat) : Int) ((bytesOf t).drop (i + 1)) := by
          rw [valFrom]; congr 1; omega
        have ea : (bt t i :: (bytesOf t).drop (i + 1)).all dig = ((bytesOf t).drop (i + 1)).all dig := by
          rw [List.all_cons, dig_iff.2 hc, Bool.true_and]
        rw [ev, ea]
        refine Ev.step st1 (Ev.step (fun k => ?_) ih)
        simp only [barrowref24_numberOf.j4]
        have w1 : wrap64 (10 * -(m : Int)) = -((10 * m : Nat) : Int) := by rw [w64 (by omega) (by omega)]; omega
        have w2 : wrap64 (-((10 * m : Nat) : Int) - (q : Int)) = -((10 * m + q : Nat) : Int) := by rw [w64 (by omega) (by omega)]; omega
        rw [if_neg (by decide), if_pos (by omega), if_pos (by omega), hk, e1, tdiv_neg, if_neg (by omega), w1, if_neg (by omega), w2, w64_nat i (by omega)]
    · refine Ev.step (f := fun k => barrowref24_numberOf.j4 k neg t (-(m : Int)) i true) (fun k => ?_) (Ev.step (f := fun _ => some (0, false)) (fun k => ?_) ?_)
      · simp only [barrowref24_numberOf.l0]
        rw [if_pos (by omega), if_pos (by omega)]
        by_cases h1 : bt t i < 48
        · rw [if_pos h1]
        · rw [if_neg h1, show decide (bt t i > 57) = true from decide_eq_true (by omega)]
      · simp only [barrowref24_numberOf.j4]
        rw [if_pos trivial]
      · refine fail _ (fun _ => rfl) (fun hh => ?_)
        have hall := hh.1
        rw [List.all_cons, Bool.and_eq_true] at hall
        exact hc (dig_iff.1 hall.1)
theorem headD_bt (s : ByteArray) : (bytesOf s).headD 0 = bt s 0 := by
  rw [bt_getD]
  cases bytesOf s <;> rfl
theorem numberOf_j1 (s : ByteArray) (neg : Bool) (t : ByteArray) (hb : bytesOf s = if neg = true then 45 :: bytesOf t else bytesOf t) (h45 : neg = false → bt t 0 ≠ 45) :
    Ev (fun k => barrowref24_numberOf.j1 k neg t) (outN (numR s)) := by
  have no : (∀ n : Nat, n ≤ 9223372036854775808 → (neg = true → 0 < n) → (neg = false → n ≠ 9223372036854775808) → bytesOf t ≠ digs n) → outN (numR s) = (0, false) := by
    intro h
    rw [numR_none]
    · rfl
    · intro v hv e
      rw [hb] at e
      obtain ⟨n, h1, h2, h3⟩ := numI_shape neg (bytesOf t) v (fun e => by rw [headD_bt]; exact h45 e) e
      unfold inI at hv
      refine h n ?_ h3 ?_ h1
      · split at h2 <;> omega
      · intro e2
        rw [e2, if_neg (by decide)] at h2
        omega
  have failT : Ev (fun k => barrowref24_numberOf.j2 k neg t true) (0, false) := by
    refine Ev.step (f := fun _ => some (0, false)) (fun k => ?_) (Ev.now _)
    simp only [barrowref24_numberOf.j2]
    rw [if_pos trivial]
  by_cases h0 : t.size = 0
  · rw [no]
    · refine Ev.step (fun k => ?_) failT
      simp only [barrowref24_numberOf.j1]
      rw [if_pos (by omega)]
    · intro n _ _ _ e
      have := congrArg List.length e
      rw [bytesOf_length, h0] at this
      exact digs_ne n (List.eq_nil_of_length_eq_zero this.symm)
  · by_cases h19 : 19 < t.size
    · rw [no]
      · refine Ev.step (fun k => ?_) failT
        simp only [barrowref24_numberOf.j1]
        rw [if_neg (by omega), if_pos (by omega)]
      · intro n hn _ _ e
        have := congrArg List.length e
        rw [bytesOf_length] at this
        have := digs_len20 n hn
        omega
    · have hd0 := bytesOf_drop t 0 (by omega)
      rw [List.drop_zero] at hd0
      by_cases hz : bt t 0 = 48 ∧ (neg = true ∨ 1 < t.size)
      · rw [no]
        · refine Ev.step (fun k => ?_) failT
          simp only [barrowref24_numberOf.j1]
          rw [if_neg (by omega), if_neg (by omega), if_pos (by omega), if_pos hz.1]
          by_cases hn : neg = true
          · rw [if_pos hn]
          · rw [if_neg hn, show decide ((t.size : Int) > 1) = true from decide_eq_true (by rcases hz.2 with h | h <;> first | exact absurd h hn | omega)]
        · intro n hn h1 _ e
          have e2 := e
          rw [hd0, show ((0 : Nat) : Int) = 0 from rfl, hz.1] at e2
          have hn0 := digs_48 n _ e2.symm
          rcases hz.2 with h | h
          · have := h1 h; omega
          · subst hn0
            have := congrArg List.length e
            rw [bytesOf_length] at this
            have e3 : (digs 0).length = 1 := rfl
            omega
      · have main := numberOf_l0 neg t (by omega) t.size 0 0 (by omega) (by omega)
        rw [List.drop_zero] at main
        have e0 : outN (numR s) = (if (bytesOf t).all dig = true ∧ valFrom ((0 : Nat) : Int) (bytesOf t) ≤ 9223372036854775808 ∧ ¬ (neg = false ∧ valFrom ((0 : Nat) : Int) (bytesOf t) = 9223372036854775808) then (if neg = true then -(valFrom ((0 : Nat) : Int) (bytesOf t)) else valFrom ((0 : Nat) : Int) (bytesOf t), true) else (0, false)) := by
          split
          · rename_i hh
            obtain ⟨n, h1, h2⟩ := digs_val (bytesOf t) (by rw [hd0]; simp) hh.1 (fun e => hz ⟨by rw [← headD_bt]; exact e.1, .inr (by rw [← bytesOf_length]; exact e.2)⟩)
            have hv : valFrom ((0 : Nat) : Int) (bytesOf t) = (n : Int) := h1
            rw [hv] at hh ⊢
            have hb2 := hb
            have hv2 : bytesOf s = numI (if neg = true then -(n : Int) else n) := by
              rw [hb]
              cases hneg : neg with
              | true =>
                rw [if_pos rfl, if_pos rfl]
                have hpos : 0 < n := by
                  rcases Nat.eq_zero_or_pos n with e | e
                  · exfalso
                    subst e
                    refine hz ⟨?_, .inl hneg⟩
                    rw [← headD_bt, ← h2]; rfl
                  · exact e
                unfold numI
                rw [if_pos (by omega), ← h2, Int.natAbs_neg, Int.natAbs_natCast]
              | false =>
                rw [if_neg (by decide), if_neg (by decide)]
                unfold numI
                rw [if_neg (by omega), ← h2, Int.natAbs_natCast]
            have hin : inI (if neg = true then -(n : Int) else n) := by
              unfold inI
              cases hneg : neg with
              | true => rw [if_pos rfl]; omega
              | false =>
                rw [if_neg (by decide)]
                have : ¬ (n : Int) = 9223372036854775808 := fun e => hh.2.2 ⟨hneg, e⟩
                omega
            rw [numR_some s _ hin hv2]
            rfl
          · rename_i hh
            refine no (fun n hn h1 h3 e => hh ?_)
            rw [e]
            have hv : valFrom ((0 : Nat) : Int) (digs n) = (n : Int) := val_digs n
            rw [hv]
            refine ⟨List.all_eq_true.2 (fun c hc => dig_iff.2 (digs_dig n c hc)), by omega, fun e2 => h3 e2.1 (by omega)⟩
        rw [e0]
        refine Ev.step (f := fun k => barrowref24_numberOf.j2 k neg t false) (fun k => ?_) (Ev.step (fun k => ?_) main)
        · simp only [barrowref24_numberOf.j1]
          rw [if_neg (by omega), if_neg (by omega), if_pos (by omega)]
          by_cases h48 : bt t 0 = 48
          · have hneg : ¬ neg = true := fun e => hz ⟨h48, .inl e⟩
            rw [if_pos h48, if_neg hneg, show decide ((t.size : Int) > 1) = false from decide_eq_false (fun e => hz ⟨h48, .inr (by omega)⟩)]
          · rw [if_neg h48]
        · simp only [barrowref24_numberOf.j2]
          rw [if_neg (by decide)]
          rfl
theorem numberOf_ev (s : ByteArray) : Ev (fun k => barrowref24_numberOf.f k s) (outN (numR s)) := by
  unfold barrowref24_numberOf.f
  by_cases h0 : 0 < s.size
  · have hd0 := bytesOf_drop s 0 h0
    rw [List.drop_zero] at hd0
    refine Ev.congr (fun k => by rw [if_pos (by omega), if_pos (by omega)]) ?_
    by_cases h45 : bt s 0 = 45
    · have hb : bytesOf (s.extract 1 s.size) = (bytesOf s).drop 1 := by
        rw [ext_bytes, List.take_of_length_le (by rw [List.length_drop, bytesOf_length]; omega)]
      refine Ev.step (fun k => ?_) (numberOf_j1 s true (s.extract 1 s.size) ?_ (fun e => by cases e))
      · rw [h45]
        simp only [barrowref24_numberOf.j0]
        rw [if_pos (by decide), if_pos (by omega)]
        rfl
      · rw [if_pos rfl, hb]
        rw [show ((0 : Nat) : Int) = 0 from rfl, h45] at hd0
        exact hd0
    · refine Ev.step (fun k => ?_) (numberOf_j1 s false s rfl (fun _ => h45))
      rw [show (bt s 0 == 45) = false from beq_eq_false_iff_ne.mpr h45]
      simp only [barrowref24_numberOf.j0]
      rw [if_neg (by decide)]
  · refine Ev.congr (fun k => by rw [if_neg (by omega)]) ?_
    refine Ev.step (fun k => ?_) (numberOf_j1 s false s rfl (fun _ => ?_))
    · simp only [barrowref24_numberOf.j0]
      rw [if_neg (by decide)]
    · unfold bt
      rw [dif_neg (by omega)]
      decide
set_option maxRecDepth 10000 in
theorem digit_all : ∀ n : Fin 256, barrowref24_digit.f 20 ((n.val : Nat) : Int) = some (hexV ((n.val : Nat) : Int)) := by decide +kernel
theorem digit_ev (c : Int) (h : 0 ≤ c ∧ c ≤ 255) : Ev (fun k => barrowref24_digit.f k c) (hexV c) := by
  have := digit_all ⟨c.toNat, by omega⟩
  have e : ((c.toNat : Nat) : Int) = c := by omega
  simp only [e] at this
  exact Ev.of (k := 20) (fun k => barrowref24_digit.mono _ k) this
theorem skuOf_l0 (s : ByteArray) (hs : s.size < 140737488355328) : ∀ (d i : Nat) (acc : List Int), i + d = s.size → acc.length ≤ i →
    Ev (fun k => barrowref24_skuOf.l0 k acc s i) (outU acc (unI ((bytesOf s).drop i))) := by
  intro d
  induction d using Nat.strongRecOn with
  | _ d ih =>
    intro i acc hd ha
    by_cases hlt : i < s.size
    · have ed := bytesOf_drop s i hlt
      have hwn := w64_nat i (by omega)
      by_cases hl : litI (bt s i) = true
      · have := ih (d - 1) (by omega) (i + 1) (acc ++ [bt s i]) (by omega) (by rw [List.length_append, List.length_singleton]; omega)
        rw [outU_cons] at this
        rw [ed, unI_lit _ _ hl]
        refine Ev.step (fun k => ?_) this
        simp only [barrowref24_skuOf.l0]
        rw [if_pos (by omega), if_pos (by omega), plainByte_eq, Option.bind_some, if_pos hl, if_pos (by omega), hwn]
      · have bad : ∀ (g : Nat → Option (ByteArray × Bool)), (∀ k, g (k + 1) = barrowref24_skuOf.j2 k acc s i true) → Ev g (outU acc none) := by
          intro g hg
          refine Ev.step hg (Ev.step (f := fun _ => some ((⟨#[]⟩ : ByteArray), false)) (fun k => ?_) (Ev.now _))
          simp only [barrowref24_skuOf.j2]
          rw [if_pos trivial]
        have w3 : wrap64 ((i : Int) + 3) = ((i + 3 : Nat) : Int) := by rw [w64 (by omega) (by omega)]; omega
        have w2 : wrap64 ((i : Int) + 2) = ((i + 2 : Nat) : Int) := by rw [w64 (by omega) (by omega)]; omega
        have w4 : wrap64 (((i + 3 : Nat) : Int) + 1) = ((i + 4 : Nat) : Int) := by rw [w64 (by omega) (by omega)]; omega
        by_cases h3 : i + 3 < s.size
        · have e1 := bytesOf_drop s (i + 1) (by omega)
          have e2 := bytesOf_drop s (i + 2) (by omega)
          have e3 := bytesOf_drop s (i + 3) h3
          rw [ed, e1, e2, e3, unI_esc _ _ _ _ _ hl]
          by_cases h92 : bt s i = 92
          · by_cases h120 : bt s ((i + 1 : Nat) : Int) = 120
            · have hx := hexV_lt (bt s ((i + 2 : Nat) : Int))
              have hy := hexV_lt (bt s ((i + 3 : Nat) : Int))
              have dx := digit_ev _ (bt_range s ((i + 2 : Nat) : Int))
              have dy := digit_ev _ (bt_range s ((i + 3 : Nat) : Int))
              have st1 : ∀ k, barrowref24_skuOf.l0 (k + 1) acc s i = barrowref24_skuOf.j2 k acc s i false := by
                intro k
                simp only [barrowref24_skuOf.l0]
                rw [if_pos (by omega), if_pos (by omega), plainByte_eq, Option.bind_some, if_neg hl, if_pos h92, w3, if_neg (by omega), hwn, if_pos (by omega), if_pos (by omega), h120]
                rfl
              have st2 : ∀ k, barrowref24_skuOf.j2 (k + 1) acc s i false = (barrowref24_digit.f k (bt s ((i + 2 : Nat) : Int))).bind fun x => (barrowref24_digit.f k (bt s ((i + 3 : Nat) : Int))).bind fun y => (if x < 0 then (some ((⟨#[]⟩ : ByteArray), false)) else (if y < 0 then (some ((⟨#[]⟩ : ByteArray), false)) else (if acc.length < 140737488355328 then (barrowref24_skuOf.l0 k (acc ++ [(wrap64 ((wrap64 (16 * x)) + y)) % 256]) s ((i + 4 : Nat) : Int)) else (none)))) := by
                intro k
                simp only [barrowref24_skuOf.j2]
                rw [if_neg (by decide), w2, if_pos (by omega), if_pos (by omega), w3]
                congr 1
                funext x
                rw [if_pos (by omega), if_pos (by omega), w4]
              refine Ev.step st1 (Ev.step st2 (Ev.bind dx (Ev.bind dy ?_)))
              by_cases hh : 0 ≤ hexV (bt s ((i + 2 : Nat) : Int)) ∧ 0 ≤ hexV (bt s ((i + 3 : Nat) : Int))
              · rw [if_pos ⟨h92, h120, hh.1, hh.2⟩]
                have := ih (d - 4) (by omega) (i + 4) (acc ++ [16 * hexV (bt s ((i + 2 : Nat) : Int)) + hexV (bt s ((i + 3 : Nat) : Int))]) (by omega) (by rw [List.length_append, List.length_singleton]; omega)
                rw [outU_cons] at this
                refine Ev.congr (fun k => ?_) this
                have e5 : (wrap64 ((wrap64 (16 * hexV (bt s ((i + 2 : Nat) : Int)))) + hexV (bt s ((i + 3 : Nat) : Int)))) % 256 = 16 * hexV (bt s ((i + 2 : Nat) : Int)) + hexV (bt s ((i + 3 : Nat) : Int)) := by
                  rw [w64 (x := 16 * hexV (bt s ((i + 2 : Nat) : Int))) (by omega) (by omega), w64 (by omega) (by omega)]; omega
                rw [if_neg (by omega), if_neg (by omega), if_pos (by omega), e5]
              · rw [if_neg (fun e => hh ⟨e.2.2.1, e.2.2.2⟩)]
                refine Ev.congr (f := fun _ => some ((⟨#[]⟩ : ByteArray), false)) (fun k => ?_) (Ev.now _)
                by_cases ha : hexV (bt s ((i + 2 : Nat) : Int)) < 0
                · rw [if_pos ha]
                · rw [if_neg ha, if_pos (by omega)]
            · rw [if_neg (fun e => h120 e.2.1)]
              refine bad _ (fun k => ?_)
              simp only [barrowref24_skuOf.l0]
              rw [if_pos (by omega), if_pos (by omega), plainByte_eq, Option.bind_some, if_neg hl, if_pos h92, w3, if_neg (by omega), hwn, if_pos (by omega), if_pos (by omega), show (bt s ((i + 1 : Nat) : Int) != 120) = true from by simpa using h120]
          · rw [if_neg (fun e => h92 e.1)]
            refine bad _ (fun k => ?_)
            simp only [barrowref24_skuOf.l0]
            rw [if_pos (by omega), if_pos (by omega), plainByte_eq, Option.bind_some, if_neg hl, if_neg h92]
        · rw [ed, unI_short _ _ hl (by rw [List.length_drop, bytesOf_length]; omega)]
          refine bad _ (fun k => ?_)
          simp only [barrowref24_skuOf.l0]
          rw [if_pos (by omega), if_pos (by omega), plainByte_eq, Option.bind_some, if_neg hl, w3]
          by_cases h92 : bt s i = 92
          · rw [if_pos h92, if_pos (by omega)]
          · rw [if_neg h92]
    · rw [List.drop_eq_nil_of_le (by rw [bytesOf_length]; omega)]
      refine Ev.step (f := fun _ => some (strOfNums acc, true)) (fun k => ?_) (by simp only [unI, outU, List.append_nil]; exact Ev.now _)
      simp only [barrowref24_skuOf.l0]
      rw [if_neg (by omega)]
theorem skuOf_ev (w : ByteArray) (hs : w.size < 140737488355328) : Ev (fun k => barrowref24_skuOf.f k w) (skuT w) := by
  unfold barrowref24_skuOf.f skuT
  refine Ev.bind (rgood_ev w) ?_
  by_cases hg : goodI (bytesOf w) = true
  · rw [if_pos hg]
    exact Ev.congr (fun _ => if_pos hg) (Ev.now _)
  · rw [if_neg hg]
    refine Ev.congr (fun k => if_neg hg) ?_
    have bad : Ev (fun k => barrowref24_skuOf.j0 k w true) ((⟨#[]⟩ : ByteArray), false) := by
      refine Ev.step (f := fun _ => some ((⟨#[]⟩ : ByteArray), false)) (fun k => ?_) (Ev.now _)
      simp only [barrowref24_skuOf.j0]
      rw [if_pos trivial]
    by_cases h2 : 2 ≤ w.size
    · have e1 : wrap64 ((w.size : Int) - 1) = ((w.size - 1 : Nat) : Int) := by rw [w64 (by omega) (by omega)]; omega
      by_cases h0 : bt w 0 = 34
      · by_cases h9 : bt w ((w.size - 1 : Nat) : Int) = 34
        · rw [if_pos ⟨h2, h0, h9⟩]
          have := skuOf_l0 (w.extract 1 (w.size - 1)) (by rw [← bytesOf_length, ext_bytes, List.length_take, List.length_drop, bytesOf_length]; omega) _ 0 [] (Nat.zero_add _) (by simp)
          rw [List.drop_zero, ext_bytes, show w.size - 1 - 1 = w.size - 2 by omega] at this
          refine Ev.congr (f := fun k => barrowref24_skuOf.j0 k w false) (fun k => ?_) (Ev.step (fun k => ?_) this)
          · rw [if_neg (by omega), if_pos (by omega), if_pos h0, e1, if_pos (by omega), if_pos (by omega), h9]
            rfl
          · simp only [barrowref24_skuOf.j0]
            rw [if_neg (by decide), e1, if_pos (by omega), if_pos (by omega), Int.toNat_natCast]
            rfl
        · rw [if_neg (fun e => h9 e.2.2)]
          refine Ev.congr (fun k => ?_) bad
          rw [if_neg (by omega), if_pos (by omega), if_pos h0, e1, if_pos (by omega), if_pos (by omega), show (bt w ((w.size - 1 : Nat) : Int) != 34) = true from by simpa using h9]
      · rw [if_neg (fun e => h0 e.2.1)]
        refine Ev.congr (fun k => ?_) bad
        rw [if_neg (by omega), if_pos (by omega), if_neg h0]
    · rw [if_neg (fun e => h2 e.1)]
      refine Ev.congr (fun k => ?_) bad
      rw [if_pos (by omega)]
theorem gap_eq (c : Int) : barrowref24_gap.f c = some (isB c) := blank_eq c
theorem cpush_said (s : ByteArray) (acc : List ByteArray) (f i : Nat) (hf : f < i) (hi : i ≤ s.size) (hs : s.size < 8796093022208) (ha : acc.length ≤ f)
    (h : Said (fun k => barrowref24_cut.l1 k s (acc ++ [s.extract f i]) i) (run false ((bytesOf s).drop i) .gap ((acc ++ [s.extract f i]).map bytesOf))) :
    Said (fun k => if (0 : Int) ≤ (f : Int) then (if (f : Int) ≤ (i : Int) then (if (i : Int) ≤ (s.size : Int) then (if acc.length < 8796093022208 then (barrowref24_cut.l0 k s (acc ++ [s.extract (f : Int).toNat (i : Int).toNat]) i) else (none)) else (none)) else (none)) else (none))
      (if (false && hashL (acc.map bytesOf ++ [bytesOf (s.extract f i)])) = true then some [] else run false ((bytesOf s).drop i) .gap (acc.map bytesOf ++ [bytesOf (s.extract f i)])) := by
  have hm : acc.map bytesOf ++ [bytesOf (s.extract f i)] = (acc ++ [s.extract f i]).map bytesOf := by simp
  rw [hm, Bool.false_and, if_neg (by decide)]
  refine Said.congr (f := fun k => barrowref24_cut.l0 k s (acc ++ [s.extract f i]) i) (fun k => ?_) (Said.step (fun k => ?_) h)
  · rw [if_pos (by omega), if_pos (by omega), if_pos (by omega), if_pos (by omega), Int.toNat_natCast, Int.toNat_natCast]
  · simp only [barrowref24_cut.l0]
theorem cut_all (s : ByteArray) (hs : s.size < 8796093022208) : ∀ (d : Nat),
    (∀ (i : Nat) (acc : List ByteArray), i + d = s.size → acc.length ≤ i → Said (fun k => barrowref24_cut.l1 k s acc i) (run false ((bytesOf s).drop i) .gap (acc.map bytesOf))) ∧
    (∀ (i f : Nat) (acc : List ByteArray), i + d = s.size → acc.length ≤ f → f < i → Said (fun k => barrowref24_cut.l3 k s acc i f) (run false ((bytesOf s).drop i) (.bare (bytesOf (s.extract f i))) (acc.map bytesOf))) ∧
    (∀ (i f : Nat) (acc : List ByteArray), i + d = s.size → acc.length ≤ f → f < i → Said (fun k => barrowref24_cut.l2 k s acc i f) (run false ((bytesOf s).drop i) (.quo (bytesOf (s.extract f i))) (acc.map bytesOf))) := by
  intro d
  induction d using Nat.strongRecOn with
  | _ d ih =>
    have L1 : ∀ (i : Nat) (acc : List ByteArray), i + d = s.size → acc.length ≤ i → Said (fun k => barrowref24_cut.l1 k s acc i) (run false ((bytesOf s).drop i) .gap (acc.map bytesOf)) := by
      intro i acc hd ha
      by_cases hlt : i < s.size
      · rw [bytesOf_drop s i hlt]
        have hwn := w64_nat i (by omega)
        by_cases hb : isB (bt s i) = true
        · have := (ih (d - 1) (by omega)).1 (i + 1) acc (by omega) (by omega)
          have e : run false (bt s i :: (bytesOf s).drop (i + 1)) .gap (acc.map bytesOf) = run false ((bytesOf s).drop (i + 1)) .gap (acc.map bytesOf) := by
            conv => lhs; unfold run
            rw [if_pos hb]
          rw [e]
          refine Said.step (fun k => ?_) this
          simp only [barrowref24_cut.l1]
          rw [if_pos (by omega), if_pos (by omega), gap_eq, Option.bind_some, if_pos hb, hwn]
        · have st : ∀ k, barrowref24_cut.l1 (k + 1) s acc i = barrowref24_cut.j2 k s acc i := by
            intro k
            simp only [barrowref24_cut.l1]
            rw [if_pos (by omega), if_pos (by omega), gap_eq, Option.bind_some, if_neg hb]
          refine Said.step st ?_
          by_cases hq : bt s i = 34
          · have := (ih (d - 1) (by omega)).2.2 (i + 1) i acc (by omega) ha (by omega)
            rw [ext_snoc s i i (Nat.le_refl _) hlt, ext_self, hq] at this
            have e : run false (bt s i :: (bytesOf s).drop (i + 1)) .gap (acc.map bytesOf) = run false ((bytesOf s).drop (i + 1)) (.quo [34]) (acc.map bytesOf) := by
              conv => lhs; unfold run
              rw [if_neg hb, if_pos hq]
            rw [e]
            refine Said.step (fun k => ?_) this
            simp only [barrowref24_cut.j2]
            rw [if_neg (by omega), if_pos (by omega), if_pos (by omega), if_pos hq, hwn]
          · have := (ih (d - 1) (by omega)).2.1 (i + 1) i acc (by omega) ha (by omega)
            rw [ext_snoc s i i (Nat.le_refl _) hlt, ext_self] at this
            have e : run false (bt s i :: (bytesOf s).drop (i + 1)) .gap (acc.map bytesOf) = run false ((bytesOf s).drop (i + 1)) (.bare [bt s i]) (acc.map bytesOf) := by
              conv => lhs; unfold run
              rw [if_neg hb, if_neg hq]
            rw [e]
            refine Said.step (f := fun k => barrowref24_cut.j5 k s acc ((i + 1 : Nat) : Int) i) (fun k => ?_) (Said.step (fun k => ?_) this)
            · simp only [barrowref24_cut.j2]
              rw [if_neg (by omega), if_pos (by omega), if_pos (by omega), if_neg hq, hwn]
            · simp only [barrowref24_cut.j5]
      · rw [List.drop_eq_nil_of_le (by rw [bytesOf_length]; omega)]
        refine Said.step (f := fun k => barrowref24_cut.j2 k s acc i) (fun k => ?_) (Said.step (f := fun _ => some (acc, true)) (fun k => ?_) (Said.yes (map_back acc) (fun _ => rfl)))
        · simp only [barrowref24_cut.l1]
          rw [if_neg (by omega)]
        · simp only [barrowref24_cut.j2]
          rw [if_pos (by omega)]
    have P : ∀ (i f : Nat) (acc : List ByteArray), i + d = s.size → acc.length ≤ f → f < i → (i < s.size → isB (bt s i) = true) → Said (fun k => barrowref24_cut.l3 k s acc i f) (run false ((bytesOf s).drop i) .gap (acc.map bytesOf ++ [bytesOf (s.extract f i)])) := by
      intro i f acc hd ha hf hB
      have rec0 := L1 i (acc ++ [s.extract f i]) hd (by rw [List.length_append, List.length_singleton]; omega)
      have p := cpush_said s acc f i hf (by omega) hs ha rec0
      rw [Bool.false_and, if_neg (by decide)] at p
      refine Said.step (fun k => ?_) p
      simp only [barrowref24_cut.l3]
      by_cases hlt : i < s.size
      · rw [if_pos (by omega), if_pos (by omega), gap_eq, Option.bind_some, if_pos (hB hlt)]
      · rw [if_neg (by omega)]
    have L3 : ∀ (i f : Nat) (acc : List ByteArray), i + d = s.size → acc.length ≤ f → f < i → Said (fun k => barrowref24_cut.l3 k s acc i f) (run false ((bytesOf s).drop i) (.bare (bytesOf (s.extract f i))) (acc.map bytesOf)) := by
      intro i f acc hd ha hf
      by_cases hlt : i < s.size
      · have ed := bytesOf_drop s i hlt
        by_cases hb : isB (bt s i) = true
        · have p := P i f acc hd ha hf (fun _ => hb)
          have e2 : run false ((bytesOf s).drop i) (.bare (bytesOf (s.extract f i))) (acc.map bytesOf) = run false ((bytesOf s).drop i) .gap (acc.map bytesOf ++ [bytesOf (s.extract f i)]) := by
            rw [ed]
            conv => lhs; unfold run
            rw [if_pos hb, Bool.false_and, if_neg (by decide)]
            conv => rhs; unfold run
            rw [if_pos hb]
          rw [e2]; exact p
        · have e2 : run false ((bytesOf s).drop i) (.bare (bytesOf (s.extract f i))) (acc.map bytesOf) = run false ((bytesOf s).drop (i + 1)) (.bare (bytesOf (s.extract f (i + 1)))) (acc.map bytesOf) := by
            rw [ed, ext_snoc s f i (by omega) hlt]
            conv => lhs; unfold run
            rw [if_neg hb]
          rw [e2]
          have := (ih (d - 1) (by omega)).2.1 (i + 1) f acc (by omega) ha (by omega)
          refine Said.step (fun k => ?_) this
          simp only [barrowref24_cut.l3]
          rw [if_pos (by omega), if_pos (by omega), gap_eq, Option.bind_some, if_neg hb, w64_nat i (by omega)]
      · have p := P i f acc hd ha hf (fun h => absurd h hlt)
        have en : (bytesOf s).drop i = [] := List.drop_eq_nil_of_le (by rw [bytesOf_length]; omega)
        have e2 : run false ((bytesOf s).drop i) (.bare (bytesOf (s.extract f i))) (acc.map bytesOf) = run false ((bytesOf s).drop i) .gap (acc.map bytesOf ++ [bytesOf (s.extract f i)]) := by
          rw [en]; rfl
        rw [e2]; exact p
    refine ⟨L1, L3, ?_⟩
    intro i f acc hd ha hf
    by_cases hlt : i < s.size
    · have ed := bytesOf_drop s i hlt
      have hwn := w64_nat i (by omega)
      by_cases hq : bt s i = 34
      · have e2 : run false ((bytesOf s).drop i) (.quo (bytesOf (s.extract f i))) (acc.map bytesOf) = run false ((bytesOf s).drop (i + 1)) (.shut (bytesOf (s.extract f (i + 1)))) (acc.map bytesOf) := by
          rw [ed, ext_snoc s f i (by omega) hlt, hq]
          conv => lhs; unfold run
          rw [if_pos rfl]
        rw [e2]
        refine Said.step (f := fun k => barrowref24_cut.j4 k s acc i f) (fun k => ?_) ?_
        · simp only [barrowref24_cut.l2]
          rw [if_pos (by omega), if_pos (by omega), if_pos hq]
        by_cases hlt2 : i + 1 < s.size
        · have ed2 := bytesOf_drop s (i + 1) hlt2
          by_cases hb : isB (bt s ((i + 1 : Nat) : Int)) = true
          · have e3 : run false ((bytesOf s).drop (i + 1)) (.shut (bytesOf (s.extract f (i + 1)))) (acc.map bytesOf) = run false ((bytesOf s).drop (i + 1)) (.bare (bytesOf (s.extract f (i + 1)))) (acc.map bytesOf) := by
              rw [ed2]
              conv => lhs; unfold run
              conv => rhs; unfold run
              rw [if_pos hb, if_pos hb]
            rw [e3]
            have := (ih (d - 1) (by omega)).2.1 (i + 1) f acc (by omega) ha (by omega)
            refine Said.step (f := fun k => barrowref24_cut.j5 k s acc ((i + 1 : Nat) : Int) f) (fun k => ?_) (Said.step (fun k => ?_) this)
            · simp only [barrowref24_cut.j4]
              rw [if_neg (by omega), hwn, if_pos (by omega), if_pos (by omega), gap_eq, Option.bind_some, if_pos hb]
            · simp only [barrowref24_cut.j5]
          · have e3 : run false ((bytesOf s).drop (i + 1)) (.shut (bytesOf (s.extract f (i + 1)))) (acc.map bytesOf) = none := by
              rw [ed2]
              conv => lhs; unfold run
              rw [if_neg hb]
            rw [e3]
            refine Said.step (f := fun _ => some (([] : List ByteArray), false)) (fun k => ?_) (Said.no (fun _ => rfl))
            simp only [barrowref24_cut.j4]
            rw [if_neg (by omega), hwn, if_pos (by omega), if_pos (by omega), gap_eq, Option.bind_some, if_neg hb]
        · have en : (bytesOf s).drop (i + 1) = [] := List.drop_eq_nil_of_le (by rw [bytesOf_length]; omega)
          have e3 : run false ((bytesOf s).drop (i + 1)) (.shut (bytesOf (s.extract f (i + 1)))) (acc.map bytesOf) = run false ((bytesOf s).drop (i + 1)) (.bare (bytesOf (s.extract f (i + 1)))) (acc.map bytesOf) := by
            rw [en]; rfl
          rw [e3]
          have := (ih (d - 1) (by omega)).2.1 (i + 1) f acc (by omega) ha (by omega)
          refine Said.step (f := fun k => barrowref24_cut.j5 k s acc ((i + 1 : Nat) : Int) f) (fun k => ?_) (Said.step (fun k => ?_) this)
          · simp only [barrowref24_cut.j4]
            rw [if_neg (by omega), hwn, if_neg (by omega)]
          · simp only [barrowref24_cut.j5]
      · have e2 : run false ((bytesOf s).drop i) (.quo (bytesOf (s.extract f i))) (acc.map bytesOf) = run false ((bytesOf s).drop (i + 1)) (.quo (bytesOf (s.extract f (i + 1)))) (acc.map bytesOf) := by
          rw [ed, ext_snoc s f i (by omega) hlt]
          conv => lhs; unfold run
          rw [if_neg hq]
        rw [e2]
        have := (ih (d - 1) (by omega)).2.2 (i + 1) f acc (by omega) ha (by omega)
        refine Said.step (fun k => ?_) this
        simp only [barrowref24_cut.l2]
        rw [if_pos (by omega), if_pos (by omega), if_neg hq, hwn]
    · have en : (bytesOf s).drop i = [] := List.drop_eq_nil_of_le (by rw [bytesOf_length]; omega)
      rw [en]
      refine Said.step (f := fun k => barrowref24_cut.j4 k s acc i f) (fun k => ?_) (Said.step (f := fun _ => some (([] : List ByteArray), false)) (fun k => ?_) (Said.no (fun _ => rfl)))
      · simp only [barrowref24_cut.l2]
        rw [if_neg (by omega)]
      · simp only [barrowref24_cut.j4]
        rw [if_pos (by omega)]
theorem cut_said (s : ByteArray) (hs : s.size < 8796093022208) : Said (fun k => barrowref24_cut.f k s) (run false (bytesOf s) .gap []) := by
  refine Said.congr (f := fun k => barrowref24_cut.l0 k s [] 0) (fun k => rfl) (Said.step (fun k => ?_) ((cut_all s hs s.size).1 0 [] (by omega) (by simp)))
  simp only [barrowref24_cut.l0]
  rfl
def silI : List Int → Bool
  | [] => true
  | c :: t => if isB c = true then silI t else c == 35
theorem silent_l0 (s : ByteArray) (hs : s.size < 8796093022208) : ∀ (d i : Nat), i + d = s.size → Ev (fun k => barrowref24_silent.l0 k s i) (silI ((bytesOf s).drop i))
  | 0, i, hd => by
    rw [List.drop_eq_nil_of_le (by rw [bytesOf_length]; omega)]
    refine Ev.step (f := fun _ => some true) (fun k => ?_) (Ev.now _)
    simp only [barrowref24_silent.l0]
    rw [if_neg (by omega)]
  | d + 1, i, hd => by
    rw [bytesOf_drop s i (by omega)]
    by_cases hb : isB (bt s i) = true
    · have ih := silent_l0 s hs d (i + 1) (by omega)
      have e : silI (bt s i :: (bytesOf s).drop (i + 1)) = silI ((bytesOf s).drop (i + 1)) := by rw [silI, if_pos hb]
      rw [e]
      refine Ev.step (fun k => ?_) ih
      simp only [barrowref24_silent.l0]
      rw [if_pos (by omega), if_pos (by omega), gap_eq, Option.bind_some, if_pos hb, w64_nat i (by omega)]
    · have e : silI (bt s i :: (bytesOf s).drop (i + 1)) = (bt s i == 35) := by rw [silI, if_neg hb]
      rw [e]
      refine Ev.step (f := fun _ => some (bt s i == 35)) (fun k => ?_) (Ev.now _)
      simp only [barrowref24_silent.l0]
      rw [if_pos (by omega), if_pos (by omega), gap_eq, Option.bind_some, if_neg hb]
theorem silent_ev (s : ByteArray) (hs : s.size < 8796093022208) : Ev (fun k => barrowref24_silent.f k s) (silI (bytesOf s)) := silent_l0 s hs s.size 0 (by omega)
theorem hash_app (acc : List (List Int)) (w : List Int) (h : acc ≠ []) : hashL (acc ++ [w]) = hashL acc := by
  unfold hashL
  cases acc with
  | nil => exact absurd rfl h
  | cons a t => rfl
def stW : St → Option (List Int)
  | .gap => none
  | .bare w => some w
  | .quo w => some w
  | .shut w => some w
def calm (st : St) (acc : List (List Int)) : Prop := (acc ≠ [] ∧ hashL acc = false) ∨ (acc = [] ∧ ∃ c w, stW st = some (c :: w) ∧ c ≠ 35)
theorem calm_push {w : List Int} {acc : List (List Int)} {st : St} (hst : stW st = some w) (h : calm st acc) : hashL (acc ++ [w]) = false := by
  rcases h with ⟨h1, h2⟩ | ⟨h1, c, u, h2, h3⟩
  · rw [hash_app acc w h1, h2]
  · rw [hst] at h2
    have h2 := Option.some.inj h2
    subst h1; subst h2
    unfold hashL
    simpa using h3
theorem calm_next {w w' : List Int} {acc : List (List Int)} {st st' : St} (hst : stW st = some w) (hst' : stW st' = some (w ++ w')) (h : calm st acc) : calm st' acc := by
  rcases h with h1 | ⟨h1, c, u, h2, h3⟩
  · exact .inl h1
  · rw [hst] at h2
    have h2 := Option.some.inj h2
    subst h2
    exact .inr ⟨h1, c, u ++ w', hst', h3⟩
theorem run_calm : ∀ (l : List Int) (st : St) (acc : List (List Int)), calm st acc → run true l st acc = run false l st acc
  | [], .gap, acc, _ => rfl
  | [], .bare w, acc, h => by
    have e := calm_push (st := .bare w) rfl h
    simp [run, e]
  | [], .quo w, acc, _ => rfl
  | [], .shut w, acc, h => by
    have e := calm_push (st := .shut w) rfl h
    simp [run, e]
  | c :: t, .gap, acc, h => by
    rcases h with ⟨h1, h2⟩ | ⟨_, _, _, h2, _⟩
    · have key : ∀ st, calm st acc := fun st => .inl ⟨h1, h2⟩
      unfold run
      by_cases hb : isB c = true
      · rw [if_pos hb, if_pos hb]; exact run_calm t _ _ (key _)
      · rw [if_neg hb, if_neg hb]
        by_cases hq : c = 34
        · rw [if_pos hq, if_pos hq]; exact run_calm t _ _ (key _)
        · rw [if_neg hq, if_neg hq]; exact run_calm t _ _ (key _)
    · cases h2
  | c :: t, .bare w, acc, h => by
    have e := calm_push (st := .bare w) rfl h
    unfold run
    by_cases hb : isB c = true
    · rw [if_pos hb, if_pos hb, e, Bool.and_false, Bool.and_false, if_neg (by decide), if_neg (by decide)]
      exact run_calm t _ _ (.inl ⟨by simp, e⟩)
    · rw [if_neg hb, if_neg hb]
      exact run_calm t _ _ (calm_next (st := .bare w) (st' := .bare (w ++ [c])) rfl rfl h)
  | c :: t, .quo w, acc, h => by
    unfold run
    by_cases hq : c = 34
    · rw [if_pos hq, if_pos hq]
      exact run_calm t _ _ (calm_next (st := .quo w) (st' := .shut (w ++ [34])) rfl rfl h)
    · rw [if_neg hq, if_neg hq]
      exact run_calm t _ _ (calm_next (st := .quo w) (st' := .quo (w ++ [c])) rfl rfl h)
  | c :: t, .shut w, acc, h => by
    have e := calm_push (st := .shut w) rfl h
    unfold run
    by_cases hb : isB c = true
    · rw [if_pos hb, if_pos hb, e, Bool.and_false, Bool.and_false, if_neg (by decide), if_neg (by decide)]
      exact run_calm t _ _ (.inl ⟨by simp, e⟩)
    · rw [if_neg hb, if_neg hb]
theorem run_mark : ∀ (l : List Int) (w : List Int), run true l (.bare (35 :: w)) [] = some []
  | [], w => by simp [run, hashL]
  | c :: t, w => by
    unfold run
    by_cases hb : isB c = true
    · rw [if_pos hb]; simp [hashL]
    · rw [if_neg hb]
      exact run_mark t (w ++ [c])
theorem run_silent : ∀ (l : List Int), silI l = true → run true l .gap [] = some []
  | [], _ => rfl
  | c :: t, h => by
    rw [silI] at h
    unfold run
    by_cases hb : isB c = true
    · rw [if_pos hb] at h ⊢
      exact run_silent t h
    · rw [if_neg hb] at h ⊢
      have hc : c = 35 := by simpa using h
      subst hc
      rw [if_neg (by decide)]
      exact run_mark t []
theorem run_len (hs : Bool) : ∀ (l : List Int) (st : St) (acc r : List (List Int)), hs = false → run hs l st acc = some r → acc.length + (if stW st = none then 0 else 1) ≤ r.length ∧ r.length ≤ acc.length + (if stW st = none then 0 else 1) + l.length
  | [], .gap, acc, r, hf, h => by simp [run] at h; subst h; simp [stW]
  | [], .bare w, acc, r, hf, h => by subst hf; simp [run] at h; subst h; simp [stW]
  | [], .quo w, acc, r, hf, h => by simp [run] at h
  | [], .shut w, acc, r, hf, h => by subst hf; simp [run] at h; subst h; simp [stW]
  | c :: t, .gap, acc, r, hf, h => by
    unfold run at h
    by_cases hb : isB c = true
    · rw [if_pos hb] at h
      have := run_len hs t _ _ _ hf h
      simp [stW] at this ⊢; omega
    · rw [if_neg hb] at h
      by_cases hq : c = 34
      · rw [if_pos hq] at h
        have := run_len hs t _ _ _ hf h
        simp [stW] at this ⊢; omega
      · rw [if_neg hq] at h
        have := run_len hs t _ _ _ hf h
        simp [stW] at this ⊢; omega
  | c :: t, .bare w, acc, r, hf, h => by
    unfold run at h
    by_cases hb : isB c = true
    · rw [if_pos hb, hf, Bool.false_and, if_neg (by decide)] at h
      have := run_len false t _ _ _ rfl h
      simp [stW] at this ⊢; omega
    · rw [if_neg hb] at h
      have := run_len hs t _ _ _ hf h
      simp [stW] at this ⊢; omega
  | c :: t, .quo w, acc, r, hf, h => by
    unfold run at h
    by_cases hq : c = 34
    · rw [if_pos hq] at h
      have := run_len hs t _ _ _ hf h
      simp [stW] at this ⊢; omega
    · rw [if_neg hq] at h
      have := run_len hs t _ _ _ hf h
      simp [stW] at this ⊢; omega
  | c :: t, .shut w, acc, r, hf, h => by
    unfold run at h
    by_cases hb : isB c = true
    · rw [if_pos hb, hf, Bool.false_and, if_neg (by decide)] at h
      have := run_len false t _ _ _ rfl h
      simp [stW] at this ⊢; omega
    · rw [if_neg hb] at h; cases h
theorem run_loud : ∀ (l : List Int), silI l = false → run true l .gap [] = run false l .gap [] ∧ ∀ r, run false l .gap [] = some r → r ≠ []
  | [], h => by cases h
  | c :: t, h => by
    rw [silI] at h
    unfold run
    by_cases hb : isB c = true
    · rw [if_pos hb] at h
      rw [if_pos hb, if_pos hb]
      exact run_loud t h
    · rw [if_neg hb] at h
      rw [if_neg hb, if_neg hb]
      have hc : c ≠ 35 := by simpa using h
      by_cases hq : c = 34
      · rw [if_pos hq, if_pos hq]
        refine ⟨run_calm t _ _ (.inr ⟨rfl, 34, [], rfl, by decide⟩), fun r hr => ?_⟩
        have := (run_len false t _ _ _ rfl hr).1
        simp [stW] at this
        intro e; subst e; simp at this
      · rw [if_neg hq, if_neg hq]
        refine ⟨run_calm t _ _ (.inr ⟨rfl, c, [], rfl, hc⟩), fun r hr => ?_⟩
        have := (run_len false t _ _ _ rfl hr).1
        simp [stW] at this
        intro e; subst e; simp at this
theorem run_size (hs : Bool) (B : Nat) : ∀ (l : List Int) (st : St) (acc r : List (List Int)), (∀ w ∈ acc, w.length ≤ B) → ((stW st).getD []).length + l.length ≤ B → run hs l st acc = some r → ∀ w ∈ r, w.length ≤ B := by
  have push : ∀ (acc : List (List Int)) (w : List Int), (∀ w ∈ acc, w.length ≤ B) → w.length ≤ B → ∀ u ∈ acc ++ [w], u.length ≤ B := by
    intro acc w h1 h2 u hu
    rcases List.mem_append.1 hu with h | h
    · exact h1 u h
    · rw [List.mem_singleton.1 h]; exact h2
  intro l
  induction l with
  | nil =>
    intro st acc r ha hb h
    cases st with
    | gap => simp [run] at h; subst h; exact ha
    | quo w => simp [run] at h
    | bare w =>
      simp only [run] at h
      split at h
      · simp at h; subst h; simp
      · simp at h; subst h; exact push acc w ha (by simpa [stW] using hb)
    | shut w =>
      simp only [run] at h
      split at h
      · simp at h; subst h; simp
      · simp at h; subst h; exact push acc w ha (by simpa [stW] using hb)
  | cons c t ih =>
    intro st acc r ha hb h
    cases st with
    | gap =>
      simp only [stW, Option.getD_none, List.length_nil, List.length_cons] at hb
      unfold run at h
      split at h
      · exact ih _ _ _ ha (by simp [stW]; omega) h
      · split at h
        · exact ih _ _ _ ha (by simp [stW]; omega) h
        · exact ih _ _ _ ha (by simp [stW]; omega) h
    | quo w =>
      simp only [stW, Option.getD_some, List.length_cons] at hb
      unfold run at h
      split at h
      · exact ih _ _ _ ha (by simp [stW]; omega) h
      · exact ih _ _ _ ha (by simp [stW]; omega) h
    | bare w =>
      simp only [stW, Option.getD_some, List.length_cons] at hb
      unfold run at h
      split at h
      · split at h
        · simp at h; subst h; simp
        · exact ih _ _ _ (push acc w ha (by omega)) (by simp [stW]; omega) h
      · exact ih _ _ _ ha (by simp [stW]; omega) h
    | shut w =>
      simp only [stW, Option.getD_some, List.length_cons] at hb
      unfold run at h
      split at h
      · split at h
        · simp at h; subst h; simp
        · exact ih _ _ _ (push acc w ha (by omega)) (by simp [stW]; omega) h
      · cases h
end Go.Proofs.YtlmdhpfggobogaaDoor.G

namespace Go.Proofs.YtlmdhpfggobogaaDoor.Pure
open Go.Proofs.YtlmdhpfggobogaaDoor.G hiding bytesOf_length
open Go.RowKit Go.Proofs.YtlmdhpfggobogaaDoorW.PrintWords Go.Proofs.YtlmdhpfggobogaaDoorW.PrintLast
open Go.Proofs.YtlmdhpfggobogaaDoor.Dec (digs val digs_val dig)
set_option linter.unusedVariables false
theorem equal_l0 (a0 a1 a2 a3 a4 a5 b0 b1 b2 b3 b4 b5 : Int) (l : List S29) (hl : l.length < 4611686018427387904) : ∀ (d i : Nat), i + d = l.length → Ev (fun k => barrowref24_Equal.l0 k i a0 a1 a2 a3 a4 a5 l b0 b1 b2 b3 b4 b5 l) true
  | 0, i, hd => by
    refine Ev.step (f := fun _ => some true) (fun k => ?_) (Ev.now _)
    simp only [barrowref24_Equal.l0]
    rw [if_neg (by omega)]
  | d + 1, i, hd => by
    refine Ev.step (fun k => ?_) (equal_l0 a0 a1 a2 a3 a4 a5 b0 b1 b2 b3 b4 b5 l hl d (i + 1) (by omega))
    simp only [barrowref24_Equal.l0]
    rw [if_pos (by omega), if_pos (by omega), if_pos (by omega), if_neg (by simp), w64_nat i (by omega)]
theorem equal_ev (a0 a1 a2 a3 a4 a5 : Int) (l : List S29) (hl : l.length < 4611686018427387904) : Ev (fun k => barrowref24_Equal.f k a0 a1 a2 a3 a4 a5 l a0 a1 a2 a3 a4 a5 l) true := by
  unfold barrowref24_Equal.f
  refine Ev.congr (f := fun k => barrowref24_Equal.j0 k false a0 a1 a2 a3 a4 a5 l a0 a1 a2 a3 a4 a5 l) (fun k => ?_) (Ev.step (fun k => ?_) (equal_l0 a0 a1 a2 a3 a4 a5 a0 a1 a2 a3 a4 a5 l hl l.length 0 (by omega)))
  · rw [if_neg (by simp), show ((l.length : Int) != (l.length : Int)) = false from by simp]
  · simp only [barrowref24_Equal.j0]
    rw [if_neg (by decide)]
    rfl
theorem numR_digits (s : ByteArray) (n : Nat) (hn : n ≤ 9223372036854775807) (h1 : bytesOf s ≠ []) (h2 : (bytesOf s).all dig = true) (h3 : ¬ ((bytesOf s).headD 0 = 48 ∧ 1 < (bytesOf s).length)) (h4 : val (bytesOf s) = n) : numR s = some (n : Int) := by
  obtain ⟨m, h5, h6⟩ := digs_val (bytesOf s) h1 h2 h3
  have : m = n := by omega
  subst this
  refine numR_some s _ (by unfold inI; omega) ?_
  unfold numI
  rw [if_neg (by omega), Int.natAbs_natCast, h6]
end Go.Proofs.YtlmdhpfggobogaaDoor.Pure
