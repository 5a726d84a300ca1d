import Derived.Test.YtlmdhpfggobogaaDoorQSk21
import Derived.Test.YtlmdhpfggobogaaDoorQSk20
import Derived.Test.YtlmdhpfggobogaaDoorQSk19
import Derived.Lib.ParseIntBCases
namespace Go.Proofs.YtlmdhpfggobogaaDoor.G
open Go.RowKit Go.Proofs.YtlmdhpfggobogaaDoorW.PrintWords Go.Proofs.YtlmdhpfggobogaaDoorW.PrintLast
open Go.Proofs.YtlmdhpfggobogaaDoor.Dec (digs val val_digs digs_dig digs_ne valFrom decDigits_digs)
set_option linter.unusedVariables false
theorem valFrom_ge : ∀ (l : List Int) (a : Int), 0 ≤ a → (∀ c ∈ l, 48 ≤ c) → a ≤ valFrom a l
  | [], a, h, _ => Int.le_refl _
  | c :: t, a, h, hc => by
    have h1 := hc c (by simp)
    have := valFrom_ge t (a * 10 + (c - 48)) (by omega) (fun x hx => hc x (by simp [hx]))
    rw [valFrom]; omega
theorem parseU_digits (M : Nat) (hM : M ≤ 18446744073709551615) : ∀ (l : List UInt8) (acc n : Nat), (∀ c ∈ byI l, 48 ≤ c ∧ c ≤ 57) → valFrom (acc : Int) (byI l) = (n : Int) → n ≤ M → Lib.parseUintM M acc l = .ok n
  | [], acc, n, _, hv, _ => by
    have : (acc : Int) = n := hv
    have : acc = n := by omega
    subst this; rfl
  | c :: t, acc, n, hd, hv, hn => by
    have e : byI (c :: t) = (c.toNat : Int) :: byI t := rfl
    rw [e] at hd hv
    have h1 := hd (c.toNat : Int) (by simp)
    rw [valFrom] at hv
    have hge := valFrom_ge (byI t) ((acc : Int) * 10 + ((c.toNat : Int) - 48)) (by omega) (fun x hx => (hd x (by simp [hx])).1)
    have e2 : (acc : Int) * 10 + ((c.toNat : Int) - 48) = ((acc * 10 + (c.toNat - 48) : Nat) : Int) := by omega
    rw [e2] at hv hge
    have ih := parseU_digits M hM t (acc * 10 + (c.toNat - 48)) n (fun x hx => hd x (by simp [hx])) hv hn
    unfold Lib.parseUintM
    rw [if_pos (by omega), if_neg (by omega), if_neg (by omega)]
    exact ih
theorem byI_dec (n : Nat) : byI (Lib.decDigits n) = digs n := decDigits_digs n
theorem dec_ne (n : Nat) : Lib.decDigits n ≠ [] := by
  intro h
  have := byI_dec n
  rw [h] at this
  exact digs_ne n this.symm
theorem parseUB_dec (n : Nat) (h : n ≤ 9223372036854775808) : Lib.parseUintB 64 (Lib.decDigits n) = .ok n := by
  unfold Lib.parseUintB
  rw [if_neg (dec_ne n)]
  refine parseU_digits _ (by decide) _ 0 n ?_ ?_ ?_
  · intro c hc
    rw [byI_dec] at hc
    exact digs_dig n c hc
  · rw [byI_dec]; exact val_digs n
  · exact Nat.le_trans h (by decide)
theorem two63 : (2 : Nat) ^ (64 - 1) = 9223372036854775808 := by decide
theorem parse_itoa (v : Int) (h : inI v) : Lib.parseIntB 64 (Lib.itoa v) = .ok v := by
  unfold inI at h
  unfold Lib.itoa
  by_cases hn : v < 0
  · rw [if_pos hn, Lib.parseIntB_minus, parseUB_dec _ (by omega), two63]
    show (if _ then _ else _) = _
    rw [if_neg (by omega)]
    congr 1
    omega
  · rw [if_neg hn]
    have hd := byI_dec v.toNat
    have hu := parseUB_dec v.toNat (by omega)
    have hne := dec_ne v.toNat
    cases hl : Lib.decDigits v.toNat with
    | nil => exact absurd hl hne
    | cons c r =>
      rw [hl] at hd hu
      have hc := digs_dig v.toNat (c.toNat : Int) (by rw [← hd]; exact List.mem_cons_self ..)
      rw [Lib.parseIntB_plain 64 c r (by omega) (by omega), hu, two63]
      show (if _ then _ else _) = _
      rw [if_neg (by omega)]
      congr 1
      omega
theorem readNumber_itoa (v : Int) (h : inI v) : script_readNumber.f (itoaB v) = some (v, true) := by
  have hl := numI_len v h
  rw [← itoa_bytes, bytesOf_length] at hl
  unfold script_readNumber.f rdNum
  rw [if_pos (by omega)]
  have e : (itoaB v).data.toList = Lib.itoa v := rfl
  rw [e, parse_itoa v h]
  show some (v, (itoaB v).toList == (itoaB v).toList) = _
  rw [beq_self_eq_true]
theorem itoa_word (v : Int) : strOfNums (numI v) = itoaB v := by rw [← itoa_bytes, str_bytesOf]
def hexV (c : Int) : Int := Lib.indexByte hexB.data.toList c.toNat.toUInt8
def unI : List Int → Option (List Int)
  | [] => some []
  | [c] => if litI c = true then some [c] else none
  | [c, x] => if litI c = true then (unI [x]).map (c :: ·) else none
  | [c, x, a] => if litI c = true then (unI [x, a]).map (c :: ·) else none
  | c :: x :: a :: b :: t => if litI c = true then (unI (x :: a :: b :: t)).map (c :: ·) else if c = 92 ∧ x = 120 ∧ 0 ≤ hexV a ∧ 0 ≤ hexV b then (unI t).map ((16 * hexV a + hexV b) :: ·) else none
theorem unI_lit (c : Int) (t : List Int) (h : litI c = true) : unI (c :: t) = (unI t).map (c :: ·) := by
  match t with
  | [] => simp [unI, h]
  | [x] => conv => lhs; rw [unI, if_pos h]
  | [x, a] => conv => lhs; rw [unI, if_pos h]
  | x :: a :: b :: t => conv => lhs; rw [unI, if_pos h]
theorem unI_short (c : Int) (t : List Int) (h : ¬ litI c = true) (ht : t.length < 3) : unI (c :: t) = none := by
  match t with
  | [] => rw [unI, if_neg h]
  | [x] => rw [unI, if_neg h]
  | [x, a] => rw [unI, if_neg h]
  | x :: a :: b :: t => simp at ht; omega
theorem unI_esc (c x a b : Int) (t : List Int) (h : ¬ litI c = true) : unI (c :: x :: a :: b :: t) = if c = 92 ∧ x = 120 ∧ 0 ≤ hexV a ∧ 0 ≤ hexV b then (unI t).map ((16 * hexV a + hexV b) :: ·) else none := by
  rw [unI, if_neg h]
theorem hexV_lt (c : Int) : -1 ≤ hexV c ∧ hexV c < 16 := by
  unfold hexV
  refine ⟨Lib.indexByte_ge _ _, ?_⟩
  by_cases h : Lib.indexByte hexB.data.toList c.toNat.toUInt8 < 0
  · omega
  · obtain ⟨o, ho⟩ : ∃ o : Nat, Lib.indexByte hexB.data.toList c.toNat.toUInt8 = o := ⟨(Lib.indexByte hexB.data.toList c.toNat.toUInt8).toNat, by omega⟩
    have h1 := (Lib.indexByte_some ho).1
    obtain ⟨h2, _⟩ := List.getElem?_eq_some_iff.1 h1
    have : hexB.data.toList.length = 16 := rfl
    omega
theorem hexV_hex : ∀ m : Fin 16, hexV (bt hexB ((m.val : Nat) : Int)) = ((m.val : Nat) : Int) := by decide +kernel
theorem hexV_at (x : Int) (h : 0 ≤ x ∧ x < 16) : hexV (bt hexB x) = x := by
  have := hexV_hex ⟨x.toNat, by omega⟩
  have e : ((x.toNat : Nat) : Int) = x := by omega
  simpa [e] using this
theorem or_hex : ∀ m n : Fin 16, (Go.bits .or .i64 (wrap64 (((m.val : Nat) : Int) * 16)) ((n.val : Nat) : Int)) % 256 = 16 * ((m.val : Nat) : Int) + ((n.val : Nat) : Int) := by decide +kernel
theorem or_at (x y : Int) (hx : 0 ≤ x ∧ x < 16) (hy : 0 ≤ y ∧ y < 16) : (Go.bits .or .i64 (wrap64 (x * 16)) y) % 256 = 16 * x + y := by
  have := or_hex ⟨x.toNat, by omega⟩ ⟨y.toNat, by omega⟩
  have e : ((x.toNat : Nat) : Int) = x := by omega
  have e2 : ((y.toNat : Nat) : Int) = y := by omega
  simpa [e, e2] using this
theorem unI_escs : ∀ (l : List Int), (∀ c ∈ l, 0 ≤ c ∧ c ≤ 255) → unI (l.flatMap escI) = some l
  | [], _ => rfl
  | c :: t, h => by
    have hc := h c (by simp)
    have ih := unI_escs t (fun x hx => h x (by simp [hx]))
    rw [List.flatMap_cons]
    by_cases hl : litI c = true
    · have e : escI c = [c] := by unfold escI; rw [if_pos hl]
      rw [e, List.singleton_append, unI_lit c _ hl, ih]; rfl
    · have e : escI c = [92, 120, bt hexB (c / 16), bt hexB (c % 16)] := by unfold escI; rw [if_neg hl]
      have h1 := hexV_at (c / 16) (by omega)
      have h2 := hexV_at (c % 16) (by omega)
      rw [e]
      show unI (92 :: 120 :: bt hexB (c / 16) :: bt hexB (c % 16) :: t.flatMap escI) = _
      rw [unI_esc _ _ _ _ _ (by decide), h1, h2, if_pos ⟨rfl, rfl, by omega, by omega⟩, ih]
      show some (_ :: t) = _
      rw [show 16 * (c / 16) + c % 16 = c by omega]
def outU (acc : List Int) : Option (List Int) → ByteArray × Bool
  | some l => (strOfNums (acc ++ l), true)
  | none => (⟨#[]⟩, false)
theorem outU_cons (acc : List Int) (c : Int) (o : Option (List Int)) : outU (acc ++ [c]) o = outU acc (o.map (c :: ·)) := by
  cases o with
  | none => rfl
  | some l => simp [outU]
theorem hexF (c : Int) : strings_IndexByte.f (⟨#[48, 49, 50, 51, 52, 53, 54, 55, 56, 57, 97, 98, 99, 100, 101, 102]⟩ : ByteArray) c = some (hexV c) := rfl
theorem readSku_l0 (s : ByteArray) (hs : s.size < 140737488355328) : ∀ (d i : Nat) (acc : List Int), i + d = s.size → acc.length ≤ i →
    Ev (fun k => script_readSku.l0 k s acc i) (outU acc (unI ((bytesOf s).drop i))) := by
  intro d
  induction d using Nat.strongRecOn with
  | _ d ih =>
    intro i acc hd ha
    by_cases hlt : i < s.size
    · have ed := bytesOf_drop s i hlt
      have hwn := w64_nat i (by omega)
      by_cases hl : litI (bt s i) = true
      · have := ih (d - 1) (by omega) (i + 1) (acc ++ [bt s i]) (by omega) (by rw [List.length_append, List.length_singleton]; omega)
        rw [outU_cons] at this
        rw [ed, unI_lit _ _ hl]
        refine Ev.step (fun k => ?_) this
        simp only [script_readSku.l0]
        rw [if_pos (by omega), if_pos (by omega), literal_eq, Option.bind_some, if_pos hl, if_pos (by omega), hwn]
      · have bad : ∀ (g : Nat → Option (ByteArray × Bool)), (∀ k, g (k + 1) = script_readSku.j2 k s acc i true) → Ev g (outU acc none) := by
          intro g hg
          refine Ev.step hg (Ev.step (f := fun _ => some ((⟨#[]⟩ : ByteArray), false)) (fun k => ?_) (Ev.now _))
          simp only [script_readSku.j2]
          rw [if_pos trivial]
        have w3 : wrap64 ((i : Int) + 3) = ((i + 3 : Nat) : Int) := by rw [w64 (by omega) (by omega)]; omega
        have w2 : wrap64 ((i : Int) + 2) = ((i + 2 : Nat) : Int) := by rw [w64 (by omega) (by omega)]; omega
        have w4 : wrap64 (((i + 3 : Nat) : Int) + 1) = ((i + 4 : Nat) : Int) := by rw [w64 (by omega) (by omega)]; omega
        by_cases h3 : i + 3 < s.size
        · have e1 := bytesOf_drop s (i + 1) (by omega)
          have e2 := bytesOf_drop s (i + 2) (by omega)
          have e3 := bytesOf_drop s (i + 3) h3
          rw [ed, e1, e2, e3, unI_esc _ _ _ _ _ hl]
          by_cases h92 : bt s i = 92
          · by_cases h120 : bt s ((i + 1 : Nat) : Int) = 120
            · have hx := hexV_lt (bt s ((i + 2 : Nat) : Int))
              have hy := hexV_lt (bt s ((i + 3 : Nat) : Int))
              have st1 : ∀ k, script_readSku.l0 (k + 1) s acc i = script_readSku.j2 k s acc i false := by
                intro k
                simp only [script_readSku.l0]
                rw [if_pos (by omega), if_pos (by omega), literal_eq, Option.bind_some, if_neg hl, if_pos h92, w3, if_neg (by omega), hwn, if_pos (by omega), if_pos (by omega), h120]
                rfl
              by_cases hh : 0 ≤ hexV (bt s ((i + 2 : Nat) : Int)) ∧ 0 ≤ hexV (bt s ((i + 3 : Nat) : Int))
              · rw [if_pos ⟨h92, h120, hh.1, hh.2⟩]
                have := ih (d - 4) (by omega) (i + 4) (acc ++ [16 * hexV (bt s ((i + 2 : Nat) : Int)) + hexV (bt s ((i + 3 : Nat) : Int))]) (by omega) (by rw [List.length_append, List.length_singleton]; omega)
                rw [outU_cons] at this
                refine Ev.step st1 (Ev.step (fun k => ?_) this)
                simp only [script_readSku.j2]
                rw [if_neg (by decide), w2, if_pos (by omega), if_pos (by omega), hexF, Option.bind_some, w3, if_pos (by omega), if_pos (by omega), hexF, Option.bind_some, if_neg (by omega), if_neg (by omega), if_pos (by omega), or_at _ _ (by omega) (by omega), w4]
              · rw [if_neg (fun e => hh ⟨e.2.2.1, e.2.2.2⟩)]
                refine Ev.step st1 (Ev.step (f := fun _ => some ((⟨#[]⟩ : ByteArray), false)) (fun k => ?_) (Ev.now _))
                simp only [script_readSku.j2]
                rw [if_neg (by decide), w2, if_pos (by omega), if_pos (by omega), hexF, Option.bind_some, w3, if_pos (by omega), if_pos (by omega), hexF, Option.bind_some]
                by_cases ha : hexV (bt s ((i + 2 : Nat) : Int)) < 0
                · rw [if_pos ha]
                · rw [if_neg ha, if_pos (by omega)]
            · rw [if_neg (fun e => h120 e.2.1)]
              refine bad _ (fun k => ?_)
              simp only [script_readSku.l0]
              rw [if_pos (by omega), if_pos (by omega), literal_eq, Option.bind_some, if_neg hl, if_pos h92, w3, if_neg (by omega), hwn, if_pos (by omega), if_pos (by omega), show (bt s ((i + 1 : Nat) : Int) != 120) = true from by simpa using h120]
          · rw [if_neg (fun e => h92 e.1)]
            refine bad _ (fun k => ?_)
            simp only [script_readSku.l0]
            rw [if_pos (by omega), if_pos (by omega), literal_eq, Option.bind_some, if_neg hl, if_neg h92]
        · rw [ed, unI_short _ _ hl (by rw [List.length_drop, bytesOf_length]; omega)]
          refine bad _ (fun k => ?_)
          simp only [script_readSku.l0]
          rw [if_pos (by omega), if_pos (by omega), literal_eq, Option.bind_some, if_neg hl, w3]
          by_cases h92 : bt s i = 92
          · rw [if_pos h92, if_pos (by omega)]
          · rw [if_neg h92]
    · rw [List.drop_eq_nil_of_le (by rw [bytesOf_length]; omega)]
      refine Ev.step (f := fun _ => some (strOfNums acc, true)) (fun k => ?_) (by simp only [unI, outU, List.append_nil]; exact Ev.now _)
      simp only [script_readSku.l0]
      rw [if_neg (by omega)]
def skuT (w : ByteArray) : ByteArray × Bool :=
  if goodI (bytesOf w) = true then (w, true)
  else if 2 ≤ w.size ∧ bt w 0 = 34 ∧ bt w ((w.size - 1 : Nat) : Int) = 34 then outU [] (unI (((bytesOf w).drop 1).take (w.size - 2)))
  else (⟨#[]⟩, false)
theorem readSku_ev (w : ByteArray) (hs : w.size < 140737488355328) : Ev (fun k => script_readSku.f k w) (skuT w) := by
  unfold script_readSku.f skuT
  refine Ev.bind (good_ev w) ?_
  by_cases hg : goodI (bytesOf w) = true
  · rw [if_pos hg]
    exact Ev.congr (fun _ => if_pos hg) (Ev.now _)
  · rw [if_neg hg]
    refine Ev.congr (fun k => if_neg hg) ?_
    have bad : Ev (fun k => script_readSku.j0 k w true) ((⟨#[]⟩ : ByteArray), false) := by
      refine Ev.step (f := fun _ => some ((⟨#[]⟩ : ByteArray), false)) (fun k => ?_) (Ev.now _)
      simp only [script_readSku.j0]
      rw [if_pos trivial]
    by_cases h2 : 2 ≤ w.size
    · have e1 : wrap64 ((w.size : Int) - 1) = ((w.size - 1 : Nat) : Int) := by rw [w64 (by omega) (by omega)]; omega
      by_cases h0 : bt w 0 = 34
      · by_cases h9 : bt w ((w.size - 1 : Nat) : Int) = 34
        · rw [if_pos ⟨h2, h0, h9⟩]
          have := readSku_l0 (w.extract 1 (w.size - 1)) (by rw [← bytesOf_length, ext_bytes, List.length_take, List.length_drop, bytesOf_length]; omega) _ 0 [] (Nat.zero_add _) (by simp)
          rw [List.drop_zero, ext_bytes, show w.size - 1 - 1 = w.size - 2 by omega] at this
          refine Ev.congr (f := fun k => script_readSku.j0 k w false) (fun k => ?_) (Ev.step (fun k => ?_) this)
          · rw [if_neg (by omega), if_pos (by omega), if_pos h0, e1, if_pos (by omega), if_pos (by omega), h9]
            rfl
          · simp only [script_readSku.j0]
            rw [if_neg (by decide), e1, if_pos (by omega), if_pos (by omega), Int.toNat_natCast]
            rfl
        · rw [if_neg (fun e => h9 e.2.2)]
          refine Ev.congr (fun k => ?_) bad
          rw [if_neg (by omega), if_pos (by omega), if_pos h0, e1, if_pos (by omega), if_pos (by omega), show (bt w ((w.size - 1 : Nat) : Int) != 34) = true from by simpa using h9]
      · rw [if_neg (fun e => h0 e.2.1)]
        refine Ev.congr (fun k => ?_) bad
        rw [if_neg (by omega), if_pos (by omega), if_neg h0]
    · rw [if_neg (fun e => h2 e.1)]
      refine Ev.congr (fun k => ?_) bad
      rw [if_pos (by omega)]
end Go.Proofs.YtlmdhpfggobogaaDoor.G
