import Derived.Test.YtlmdhpfggobogaaDoorQSp25
import Derived.Test.YtlmdhpfggobogaaDoorQSp24
import Derived.Test.YtlmdhpfggobogaaDoorQSp10
import Derived.Test.YtlmdhpfggobogaaDoorQSp23
/- The op of a line's words: the program's step and the reference's answer alike; so do the two ParseOps. -/
namespace Go.Proofs.YtlmdhpfggobogaaDoor.Pure
open Go.Proofs.YtlmdhpfggobogaaDoor.G hiding bytesOf_length
open Go.RowKit Go.Proofs.YtlmdhpfggobogaaDoorW.PrintWords Go.Proofs.YtlmdhpfggobogaaDoorW.PrintLast
set_option linter.unusedVariables false
/-- The words behind the step's word, letter by letter. -/
def readP : List Int → List ByteArray → S29 → Option S29
  | [], _, o => some o
  | _ :: _, [], _ => none
  | c :: t, x :: xs, o => if c = 115 then (if (skuT x).2 = true then readP t xs { o with f4 := (skuT x).1 } else none) else match numR x with
    | some v => readP t xs (setF o c v)
    | none => none
theorem readAll_P : ∀ (T : List Int) (xs : List ByteArray) (o : S29), T.length ≤ xs.length → (∀ x ∈ xs, x.size ≤ 8796093022208) → Ev (fun k => readAll k T xs o) (readP T xs o)
  | [], _, o, _, _ => Ev.now _
  | c :: t, [], o, h, _ => by simp at h
  | c :: t, x :: xs, o, h, hx => by
    have h1 := hx x (by simp)
    have ht : t.length ≤ xs.length := by simpa using h
    have hxs : ∀ y ∈ xs, y.size ≤ 8796093022208 := fun y hy => hx y (by simp [hy])
    simp only [readP]
    by_cases hc : c = 115
    · rw [if_pos hc]
      refine Ev.congr (fun k => ?_) (Ev.bind (f := fun k r => if r.2 = true then readAll k t xs { o with f4 := r.1 } else some none) (readSku_ev x (by omega)) ?_)
      · simp only [readAll]
        rw [if_pos hc]
      · by_cases hr : (skuT x).2 = true
        · rw [if_pos hr]
          exact Ev.congr (fun k => if_pos hr) (readAll_P t xs _ ht hxs)
        · rw [if_neg hr]
          exact Ev.congr (fun k => if_neg hr) (Ev.now _)
    · rw [if_neg hc]
      have hn : script_readNumber.f x = some (rdNum x) := by unfold script_readNumber.f; rw [if_pos (by omega)]
      unfold numR
      by_cases hr : (rdNum x).2 = true
      · rw [if_pos hr]
        refine Ev.congr (fun k => ?_) (readAll_P t xs (setF o c (rdNum x).1) ht hxs)
        simp only [readAll]
        rw [if_neg hc, hn, Option.bind_some, if_pos hr]
      · rw [if_neg hr]
        refine Ev.congr (f := fun _ => some none) (fun k => ?_) (Ev.now _)
        simp only [readAll]
        rw [if_neg hc, hn, Option.bind_some, if_neg hr]
def stepP (x : ByteArray) (xs : List ByteArray) : Int × Int × Int × Int × ByteArray × Int × Int × Bool :=
  if (shp (kindUpto x 16)).1.toList == x.toList then
    (if xs.length = (shp (kindUpto x 16)).2.size then stepEnd (kindUpto x 16) (readP (bytesOf (shp (kindUpto x 16)).2) xs ⟨kindUpto x 16, 0, 0, 0, ⟨#[]⟩, 0, 0⟩) else tupB zeroO false)
  else tupB zeroO false
theorem step_P (x : ByteArray) (xs : List ByteArray) (hl : xs.length < 4611686018427387903) (hx : ∀ y ∈ xs, y.size ≤ 8796093022208) : Ev (fun k => script_step.f k (x :: xs)) (stepP x xs) := by
  show Ev (fun k => stepC k x xs) _
  unfold stepC stepP
  refine Ev.congr (fun k => if_pos (by rw [List.length_cons]; omega)) ?_
  by_cases h1 : ((shp (kindUpto x 16)).1.toList == x.toList) = true
  · rw [if_pos h1]
    refine Ev.congr (fun k => if_pos h1) ?_
    by_cases h2 : xs.length = (shp (kindUpto x 16)).2.size
    · rw [if_pos h2]
      refine Ev.congr (fun k => if_pos h2) ?_
      obtain ⟨K, hK⟩ := readAll_P (bytesOf (shp (kindUpto x 16)).2) xs ⟨kindUpto x 16, 0, 0, 0, ⟨#[]⟩, 0, 0⟩ (by rw [shp_sizes, h2]; exact Nat.le_refl _) hx
      refine ⟨K, fun k hk => ?_⟩
      have := hK k hk
      dsimp only at this ⊢
      rw [this]; rfl
    · rw [if_neg h2]
      exact Ev.congr (fun k => if_neg h2) (Ev.now _)
  · rw [if_neg h1]
    exact Ev.congr (fun k => if_neg h1) (Ev.now _)
/-! ### The reference's step -/
theorem with_eq (o : S29) (c v : Int) (h : c = 115 ∨ c = 114 ∨ c = 99 ∨ c = 116 ∨ c = 113 ∨ c = 110 ∨ c = 107) (h2 : c ≠ 115) : barrowref24_with.f o.f0 o.f1 o.f2 o.f3 o.f4 o.f5 o.f6 (upL c) v = some (tupO (setF o c v)) := by
  rcases h with rfl | rfl | rfl | rfl | rfl | rfl | rfl
  · exact absurd rfl h2
  all_goals rfl
theorem rstep_l1 (x : ByteArray) (xs : List ByteArray) (hl : xs.length < 4611686018427387903) (hx : ∀ y ∈ xs, y.size ≤ 8796093022208) (kd : Int) (hk : 0 ≤ kd ∧ kd ≤ 16) (hm : xs.length = (shp kd).2.size) : ∀ (d i : Nat) (o : S29), i + d = xs.length →
    Ev (fun k => barrowref24_step.l1 k (x :: xs) kd (rshape kd) i o.f0 o.f1 o.f2 o.f3 o.f4 o.f5 o.f6) (stepEnd kd (readP ((bytesOf (shp kd).2).drop i) (xs.drop i) o))
  | 0, i, o, hd => by
    obtain ⟨_, h2, h3, _, h5⟩ := shapes kd
    have hsz : (rshape kd).size = xs.length := by rw [hm, ← G.bytesOf_length, h2, List.length_map, G.bytesOf_length]
    rw [List.drop_eq_nil_of_le (by rw [G.bytesOf_length]; omega)]
    refine Ev.step (f := fun _ => some (stepEnd kd (some o))) (fun k => ?_) (Ev.now _)
    simp only [barrowref24_step.l1]
    rw [if_neg (by omega)]
    by_cases h0 : kd = 0
    · rw [if_pos h0]
      by_cases ha : o.f0 ≥ 1
      · rw [if_pos ha]
        by_cases hb : o.f0 ≤ 16
        · rw [if_pos hb, stepEnd_bad (by unfold knownI; simp; omega) (by unfold knownI; simp; omega)]
          rfl
        · rw [if_neg hb, stepEnd_good (.inr (by unfold knownI; simp; omega))]
          rfl
      · rw [if_neg ha, stepEnd_good (.inr (by unfold knownI; simp; omega))]
        rfl
    · rw [if_neg h0, stepEnd_good (.inl (by unfold knownI; simp; omega))]
      rfl
  | d + 1, i, o, hd => by
    obtain ⟨_, h2, h3, _, h5⟩ := shapes kd
    have hsz : (rshape kd).size = xs.length := by rw [hm, ← G.bytesOf_length, h2, List.length_map, G.bytesOf_length]
    have hi : i < (bytesOf (shp kd).2).length := by rw [G.bytesOf_length]; omega
    have hix : i < xs.length := by omega
    have hci := h3 _ (List.getElem_mem hi)
    have hb : bt (rshape kd) i = upL (bytesOf (shp kd).2)[i] := by
      rw [bt_getD, h2, Int.toNat_natCast, List.getD_eq_getElem?_getD, List.getElem?_map, List.getElem?_eq_getElem hi]; rfl
    have hrd : rdOf ByteArray.empty (x :: xs) ((i + 1 : Nat) : Int) = xs[i] := by
      unfold rdOf
      rw [Int.toNat_natCast, List.getD_eq_getElem?_getD, List.getElem?_cons_succ, List.getElem?_eq_getElem hix]; rfl
    have hwn := w64_nat i (by omega)
    have hxi := hx xs[i] (List.getElem_mem hix)
    rw [List.drop_eq_getElem_cons hi, List.drop_eq_getElem_cons hix]
    generalize hc : (bytesOf (shp kd).2)[i] = c at *
    generalize hxe : xs[i] = y at *
    simp only [readP]
    have hlen : (((i + 1 : Nat) : Int) < ((x :: xs).length : Int)) := by rw [List.length_cons]; omega
    by_cases h1 : c = 115
    · rw [if_pos h1]
      have h83 : bt (rshape kd) i = 83 := by rw [hb, h1]; rfl
      have st : ∀ k, barrowref24_step.l1 (k + 1) (x :: xs) kd (rshape kd) i o.f0 o.f1 o.f2 o.f3 o.f4 o.f5 o.f6 = (barrowref24_skuOf.f k y).bind fun bt184 => (if bt184.2 = true then (barrowref24_step.l1 k (x :: xs) kd (rshape kd) ((i + 1 : Nat) : Int) o.f0 o.f1 o.f2 o.f3 bt184.1 o.f5 o.f6) else (some (0, 0, 0, 0, (⟨#[]⟩ : ByteArray), 0, 0, false))) := by
        intro k
        simp only [barrowref24_step.l1]
        rw [if_pos (by omega), if_pos (by omega), if_pos h83, hwn, if_pos (by omega), if_pos hlen, hrd]
      refine Ev.step st (Ev.bind (skuOf_ev y (by omega)) ?_)
      by_cases hr : (skuT y).2 = true
      · rw [if_pos hr]
        refine Ev.congr (fun k => if_pos hr) ?_
        exact rstep_l1 x xs hl hx kd hk hm d (i + 1) { o with f4 := (skuT y).1 } (by omega)
      · rw [if_neg hr]
        exact Ev.congr (fun k => if_neg hr) (Ev.now _)
    · rw [if_neg h1]
      have h83 : ¬ bt (rshape kd) i = 83 := by rw [hb]; unfold upL; omega
      have st : ∀ k, barrowref24_step.l1 (k + 1) (x :: xs) kd (rshape kd) i o.f0 o.f1 o.f2 o.f3 o.f4 o.f5 o.f6 = (barrowref24_numberOf.f k y).bind fun bt187 => (if bt187.2 = true then ((barrowref24_with.f o.f0 o.f1 o.f2 o.f3 o.f4 o.f5 o.f6 (bt (rshape kd) i) bt187.1).bind fun bt189 => (barrowref24_step.l1 k (x :: xs) kd (rshape kd) ((i + 1 : Nat) : Int) bt189.1 bt189.2.1 bt189.2.2.1 bt189.2.2.2.1 bt189.2.2.2.2.1 bt189.2.2.2.2.2.1 bt189.2.2.2.2.2.2)) else (some (0, 0, 0, 0, (⟨#[]⟩ : ByteArray), 0, 0, false))) := by
        intro k
        simp only [barrowref24_step.l1]
        rw [if_pos (by omega), if_pos (by omega), if_neg h83, hwn, if_pos (by omega), if_pos hlen, hrd]
      refine Ev.step st (Ev.bind (numberOf_ev y) ?_)
      cases hn : numR y with
      | none =>
        exact Ev.congr (fun k => if_neg (by decide)) (Ev.now _)
      | some v =>
        refine Ev.congr (f := fun k => barrowref24_step.l1 k (x :: xs) kd (rshape kd) ((i + 1 : Nat) : Int) (setF o c v).f0 (setF o c v).f1 (setF o c v).f2 (setF o c v).f3 (setF o c v).f4 (setF o c v).f5 (setF o c v).f6) (fun k => ?_) (rstep_l1 x xs hl hx kd hk hm d (i + 1) (setF o c v) (by omega))
        show (if true = true then _ else _) = _
        rw [if_pos rfl]
        show (barrowref24_with.f o.f0 o.f1 o.f2 o.f3 o.f4 o.f5 o.f6 (bt (rshape kd) i) v).bind _ = _
        rw [hb, with_eq o c v hci h1, Option.bind_some]
        rfl
theorem toList_beq (s t : ByteArray) : (s.toList == t.toList) = true ↔ s = t := by
  rw [beq_iff_eq]
  constructor
  · intro h
    rw [ByteArray.toList_eq, ByteArray.toList_eq] at h
    cases s; cases t
    simp only [ByteArray.mk.injEq]
    exact Array.toList_inj.1 h
  · intro h; rw [h]
theorem kindUpto_range (x : ByteArray) : ∀ n : Nat, 0 ≤ kindUpto x n ∧ kindUpto x n ≤ n
  | 0 => ⟨Int.le_refl _, Int.le_refl _⟩
  | n + 1 => by
    have := kindUpto_range x n
    unfold kindUpto
    split <;> omega
theorem kindUpto_of (x : ByteArray) (j : Nat) (hj : j ≤ 16) (h : (shp (j : Int)).1 = x) : kindUpto x 16 = (j : Int) := by
  subst h
  by_cases h0 : j = 0
  · subst h0
    have e : (shp ((0 : Nat) : Int)).1 = opWord := by rw [(out_of (a0 := ((0 : Nat) : Int)) (by omega)).1]
    rw [e]; exact kind_op
  · exact kind_known (j : Int) (by omega)
theorem rstep_l0 (x : ByteArray) (xs : List ByteArray) (hl : xs.length < 4611686018427387903) (hx : ∀ y ∈ xs, y.size ≤ 8796093022208) : ∀ (d j : Nat), j + d = 17 → (∀ i : Nat, i < j → ¬ (xs.length = (shp (i : Int)).2.size ∧ (shp (i : Int)).1 = x)) →
    Ev (fun k => barrowref24_step.l0 k (x :: xs) j) (stepP x xs)
  | 0, j, hd, hno => by
    have hr := kindUpto_range x 16
    obtain ⟨q, hq⟩ : ∃ q : Nat, kindUpto x 16 = (q : Int) := ⟨(kindUpto x 16).toNat, by omega⟩
    have hn := hno q (by omega)
    have e : stepP x xs = tupB zeroO false := by
      unfold stepP
      rw [hq]
      by_cases h1 : ((shp (q : Int)).1.toList == x.toList) = true
      · rw [if_pos h1, if_neg (fun h2 => hn ⟨h2, (toList_beq _ _).1 h1⟩)]
      · rw [if_neg h1]
    rw [e]
    refine Ev.step (f := fun _ => some (0, 0, 0, 0, (⟨#[]⟩ : ByteArray), 0, 0, false)) (fun k => ?_) (Ev.now _)
    simp only [barrowref24_step.l0]
    rw [if_neg (by omega)]
  | d + 1, j, hd, hno => by
    obtain ⟨h1, h2, h3, _, h5⟩ := shapes (j : Int)
    have hsz : (rshape (j : Int)).size = (shp (j : Int)).2.size := by rw [← G.bytesOf_length, h2, List.length_map, G.bytesOf_length]
    have hrd : rdOf ByteArray.empty (x :: xs) 0 = x := rfl
    have hw : wrap64 (((rshape (j : Int)).size : Int) + 1) = (((rshape (j : Int)).size + 1 : Nat) : Int) := w64_nat _ (by omega)
    have next : (¬ (xs.length = (shp (j : Int)).2.size ∧ (shp (j : Int)).1 = x)) → Ev (fun k => barrowref24_step.j1 k (x :: xs) j (rshape (j : Int)) true) (stepP x xs) := by
      intro hn
      have ih := rstep_l0 x xs hl hx d (j + 1) (by omega) (fun i hi => by
        by_cases e : i = j
        · rw [e]; exact hn
        · exact hno i (by omega))
      refine Ev.step (fun k => ?_) ih
      simp only [barrowref24_step.j1]
      rw [if_pos trivial, w64_nat j (by omega)]
    by_cases hlen : xs.length = (shp (j : Int)).2.size
    · have st : ∀ k, barrowref24_step.l0 (k + 1) (x :: xs) j = barrowref24_step.j1 k (x :: xs) j (rshape (j : Int)) (x.toList != (shp (j : Int)).1.toList) := by
        intro k
        simp only [barrowref24_step.l0]
        rw [if_pos (by omega), rshape_eq, Option.bind_some, hw, if_pos (by rw [List.length_cons]; omega), if_pos (by rw [List.length_cons]; omega), rword_eq, Option.bind_some, hrd, h1]
      refine Ev.step st ?_
      by_cases hwd : (shp (j : Int)).1 = x
      · have e1 : (x.toList != (shp (j : Int)).1.toList) = false := by rw [hwd]; simp
        have hkd := kindUpto_of x j (by omega) hwd
        rw [e1]
        have e2 : stepP x xs = stepEnd (j : Int) (readP (bytesOf (shp (j : Int)).2) xs ⟨(j : Int), 0, 0, 0, ⟨#[]⟩, 0, 0⟩) := by
          unfold stepP
          rw [hkd, if_pos ((toList_beq _ _).2 hwd), if_pos hlen]
        rw [e2]
        have main := rstep_l1 x xs hl hx (j : Int) (by omega) hlen xs.length 0 ⟨(j : Int), 0, 0, 0, ⟨#[]⟩, 0, 0⟩ (by omega)
        rw [List.drop_zero, List.drop_zero] at main
        refine Ev.step (fun k => ?_) main
        simp only [barrowref24_step.j1]
        rw [if_neg (by decide)]
        rfl
      · have e1 : (x.toList != (shp (j : Int)).1.toList) = true := by
          rw [bne_iff_ne]
          intro e
          exact hwd ((toList_beq _ _).1 (by rw [beq_iff_eq]; exact e.symm))
        rw [e1]
        exact next (fun e => hwd e.2)
    · refine Ev.step (fun k => ?_) (next (fun e => hlen e.1))
      simp only [barrowref24_step.l0]
      rw [if_pos (by omega), rshape_eq, Option.bind_some, hw, if_neg (by rw [List.length_cons]; omega)]
theorem rstep_P (x : ByteArray) (xs : List ByteArray) (hl : xs.length < 4611686018427387903) (hx : ∀ y ∈ xs, y.size ≤ 8796093022208) : Ev (fun k => barrowref24_step.f k (x :: xs)) (stepP x xs) :=
  rstep_l0 x xs hl hx 17 0 (by omega) (fun i hi => by omega)
/-! ### ParseOp -/
theorem contains_eq (s : ByteArray) : strings_Contains.f s ⟨#[10]⟩ = some (decide ((10 : Int) ∈ bytesOf s)) := by
  by_cases h : (10 : Int) ∈ bytesOf s
  · unfold strings_Contains.f
    rw [if_pos (by decide), decide_eq_true h]
    congr 1
    apply decide_eq_true
    show 0 ≤ Lib.indexByte s.data.toList 10
    have hge := Lib.indexByte_ge s.data.toList 10
    by_cases hn : Lib.indexByte s.data.toList 10 = -1
    · exfalso
      unfold bytesOf at h
      obtain ⟨b, hb, hb2⟩ := List.mem_map.1 h
      obtain ⟨n, hn2, e⟩ := List.getElem_of_mem hb
      refine Lib.indexByte_none hn n ?_
      rw [List.getElem?_eq_getElem hn2, e]
      congr 1
      apply UInt8.toNat_inj.1
      have : (10 : UInt8).toNat = 10 := rfl
      omega
    · omega
  · rw [no_end s h, decide_eq_false h]
def badO : Int × Int × Int × Int × ByteArray × Int × Int × Int := (0, 0, 0, 0, (⟨#[]⟩ : ByteArray), 0, 0, 17)
def outO (r : Int × Int × Int × Int × ByteArray × Int × Int × Bool) : Int × Int × Int × Int × ByteArray × Int × Int × Int :=
  if r.2.2.2.2.2.2.2 = true then (r.1, r.2.1, r.2.2.1, r.2.2.2.1, r.2.2.2.2.1, r.2.2.2.2.2.1, r.2.2.2.2.2.2.1, 0) else badO
/-- The op of a line's words, if there are some. -/
def opW : Option (List (List Int)) → Option (Int × Int × Int × Int × ByteArray × Int × Int × Bool)
  | some (w :: ws) => some (stepP (strOfNums w) (ws.map strOfNums))
  | _ => none
def opsP (s : ByteArray) : Int × Int × Int × Int × ByteArray × Int × Int × Int :=
  if (10 : Int) ∈ bytesOf s ∨ silI (bytesOf s) = true then badO else match opW (run false (bytesOf s) .gap []) with
    | some r => outO r
    | none => badO
/-- What is known of a line's words. -/
theorem words_small (s : ByteArray) (hs : s.size < 8796093022208) {w : List Int} {ws : List (List Int)} (h : run false (bytesOf s) .gap [] = some (w :: ws)) : (ws.map strOfNums).length < 4611686018427387903 ∧ ∀ y ∈ ws.map strOfNums, y.size ≤ 8796093022208 := by
  have h1 := run_len false _ _ _ _ rfl h
  rw [G.bytesOf_length] at h1
  simp [stW] at h1
  have h2 := run_size false s.size _ _ _ _ (by simp) (by rw [G.bytesOf_length]; simp [stW]) h
  refine ⟨by rw [List.length_map]; omega, fun y hy => ?_⟩
  obtain ⟨u, hu, rfl⟩ := List.mem_map.1 hy
  have := h2 u (by simp [hu])
  have e : (strOfNums u).size = u.length := by rw [← G.bytesOf_length]; simp [bytesOf, strOfNums]
  omega
theorem parseOp_P (s : ByteArray) (hs : s.size < 8796093022208) : Ev (fun k => script_ParseOp.f k s) (opsP s) := by
  obtain ⟨L, hL⟩ := words_said s hs
  unfold script_ParseOp.f opsP
  have bad : ∀ l, Ev (fun k => script_ParseOp.j0 k l true) badO := fun l => by
    refine Ev.step (f := fun _ => some badO) (fun k => ?_) (Ev.now _)
    simp only [script_ParseOp.j0]
    rw [if_pos trivial]
    rfl
  refine Ev.bind hL ?_
  by_cases h10 : (10 : Int) ∈ bytesOf s
  · rw [if_pos (.inl h10)]
    exact Ev.congr (fun k => by rw [contains_eq, Option.bind_some, decide_eq_true h10, if_pos rfl]) (bad _)
  · by_cases hsil : silI (bytesOf s) = true
    · rw [if_pos (.inr hsil), run_silent _ hsil]
      refine Ev.congr (fun k => ?_) (bad [])
      rw [contains_eq, Option.bind_some, decide_eq_false h10, if_neg (by decide)]
      rfl
    · rw [if_neg (fun e => e.elim h10 hsil)]
      obtain ⟨e1, e2⟩ := run_loud (bytesOf s) (by simpa using hsil)
      rw [e1]
      cases hrun : run false (bytesOf s) .gap [] with
      | none =>
        refine Ev.congr (fun k => ?_) (bad L)
        rw [contains_eq, Option.bind_some, decide_eq_false h10, if_neg (by decide)]
        rfl
      | some r =>
        cases r with
        | nil => exact absurd rfl (e2 [] hrun)
        | cons w ws =>
          obtain ⟨b1, b2⟩ := words_small s hs hrun
          have hst := step_P (strOfNums w) (ws.map strOfNums) b1 b2
          refine Ev.congr (f := fun k => script_ParseOp.j0 k (strOfNums w :: ws.map strOfNums) false) (fun k => ?_) ?_
          · rw [contains_eq, Option.bind_some, decide_eq_false h10, if_neg (by decide)]
            show (if true = true then _ else _) = _
            rw [if_pos rfl]
            show script_ParseOp.j0 k (strOfNums w :: ws.map strOfNums) (((strOfNums w :: ws.map strOfNums).length : Int) == 0) = _
            rw [show (((strOfNums w :: ws.map strOfNums).length : Int) == 0) = false from by rw [beq_eq_false_iff_ne, List.length_cons]; omega]
          · refine Ev.step (f := fun k => (script_step.f k (strOfNums w :: ws.map strOfNums)).bind fun bt130 => (if bt130.2.2.2.2.2.2.2 = true then (some (bt130.1, bt130.2.1, bt130.2.2.1, bt130.2.2.2.1, bt130.2.2.2.2.1, bt130.2.2.2.2.2.1, bt130.2.2.2.2.2.2.1, 0)) else (some (0, 0, 0, 0, (⟨#[]⟩ : ByteArray), 0, 0, 17)))) (fun k => by simp only [script_ParseOp.j0]; rw [if_neg (by decide)]) ?_
            refine Ev.bind hst ?_
            show Ev _ (outO (stepP (strOfNums w) (ws.map strOfNums)))
            generalize stepP (strOfNums w) (ws.map strOfNums) = r
            unfold outO
            by_cases hr : r.2.2.2.2.2.2.2 = true
            · exact ⟨0, fun k _ => by dsimp only; rw [if_pos hr, if_pos hr]; try rfl⟩
            · exact ⟨0, fun k _ => by dsimp only; rw [if_neg hr, if_neg hr]; try rfl⟩
theorem rparseOp_l0 (s : ByteArray) (hs : s.size < 8796093022208) : ∀ (d i : Nat), i + d = s.size → Ev (fun k => barrowref24_ParseOp.l0 k s i) (if (10 : Int) ∈ (bytesOf s).drop i ∨ silI (bytesOf s) = true then badO else match opW (run false (bytesOf s) .gap []) with
    | some r => outO r
    | none => badO)
  | 0, i, hd => by
    have hnil : (bytesOf s).drop i = [] := List.drop_eq_nil_of_le (by rw [G.bytesOf_length]; omega)
    obtain ⟨L, hL⟩ := cut_said s hs
    have hsl := silent_ev s hs
    rw [hnil]
    have bad : ∀ l, Ev (fun k => barrowref24_ParseOp.j1 k l true) badO := fun l => by
      refine Ev.step (f := fun _ => some badO) (fun k => ?_) (Ev.now _)
      simp only [barrowref24_ParseOp.j1]
      rw [if_pos trivial]
      rfl
    refine Ev.step (fun k => by simp only [barrowref24_ParseOp.l0]; rw [if_neg (by omega)]) ?_
    refine Ev.bind hL (Ev.bind hsl ?_)
    by_cases hsil : silI (bytesOf s) = true
    · rw [if_pos (.inr hsil)]
      exact Ev.congr (fun k => if_pos hsil) (bad _)
    · rw [if_neg (fun e => e.elim (by simp) hsil)]
      refine Ev.congr (fun k => if_neg hsil) ?_
      obtain ⟨e1, e2⟩ := run_loud (bytesOf s) (by simpa using hsil)
      cases hrun : run false (bytesOf s) .gap [] with
      | none => exact bad L
      | some r =>
        cases r with
        | nil => exact absurd rfl (e2 [] hrun)
        | cons w ws =>
          obtain ⟨b1, b2⟩ := words_small s hs hrun
          have hst := rstep_P (strOfNums w) (ws.map strOfNums) b1 b2
          refine Ev.step (f := fun k => (barrowref24_step.f k (strOfNums w :: ws.map strOfNums)).bind fun bt202 => (if bt202.2.2.2.2.2.2.2 = true then (some (bt202.1, bt202.2.1, bt202.2.2.1, bt202.2.2.2.1, bt202.2.2.2.2.1, bt202.2.2.2.2.2.1, bt202.2.2.2.2.2.2.1, 0)) else (some (0, 0, 0, 0, (⟨#[]⟩ : ByteArray), 0, 0, 17)))) (fun k => by simp only [barrowref24_ParseOp.j1]; rw [if_neg (by decide)]; rfl) ?_
          refine Ev.bind hst ?_
          show Ev _ (outO (stepP (strOfNums w) (ws.map strOfNums)))
          generalize stepP (strOfNums w) (ws.map strOfNums) = r
          unfold outO
          by_cases hr : r.2.2.2.2.2.2.2 = true
          · exact ⟨0, fun k _ => by dsimp only; rw [if_pos hr, if_pos hr]; try rfl⟩
          · exact ⟨0, fun k _ => by dsimp only; rw [if_neg hr, if_neg hr]; try rfl⟩
  | d + 1, i, hd => by
    have ih := rparseOp_l0 s hs d (i + 1) (by omega)
    rw [bytesOf_drop s i (by omega)]
    by_cases h10 : bt s i = 10
    · rw [if_pos (.inl (by rw [h10]; simp))]
      refine Ev.step (f := fun _ => some badO) (fun k => ?_) (Ev.now _)
      simp only [barrowref24_ParseOp.l0]
      rw [if_pos (by omega), if_pos (by omega), if_pos h10]
      rfl
    · have e : ((10 : Int) ∈ bt s i :: (bytesOf s).drop (i + 1) ∨ silI (bytesOf s) = true) = ((10 : Int) ∈ (bytesOf s).drop (i + 1) ∨ silI (bytesOf s) = true) := by
        rw [List.mem_cons]
        have : ¬ (10 : Int) = bt s i := fun h => h10 h.symm
        simp [this]
      simp only [e]
      refine Ev.step (fun k => ?_) ih
      simp only [barrowref24_ParseOp.l0]
      rw [if_pos (by omega), if_pos (by omega), if_neg h10, w64_nat i (by omega)]
theorem rparseOp_P (s : ByteArray) (hs : s.size < 8796093022208) : Ev (fun k => barrowref24_ParseOp.f k s) (opsP s) := by
  have := rparseOp_l0 s hs s.size 0 (by omega)
  rw [List.drop_zero] at this
  exact this
end Go.Proofs.YtlmdhpfggobogaaDoor.Pure

/- ScriptOps: the two ParseOps answer alike, at every text. -/
namespace Go.Proofs.YtlmdhpfggobogaaDoor.Pure
open Go.Proofs.YtlmdhpfggobogaaDoor.G hiding bytesOf_length
open Go.RowKit Go.Proofs.YtlmdhpfggobogaaDoorW.PrintWords Go.Proofs.YtlmdhpfggobogaaDoorW.PrintLast
set_option linter.unusedVariables false
theorem ScriptOps (s : ByteArray) (hs : s.size ≤ 1048576) : ∃ k, barrowlaw24_ScriptOps.f k s = some true := by
  refine Ev.rounds ?_
  unfold barrowlaw24_ScriptOps.f
  refine Ev.bind awake_ev (Ev.congr (fun k => if_pos rfl) ?_)
  refine Ev.bind (parseOp_P s (by omega)) (Ev.bind (rparseOp_P s (by omega)) ?_)
  refine Ev.congr (f := fun _ => some true) (fun k => ?_) (Ev.now _)
  try dsimp only
  rw [if_pos rfl]
  simp
end Go.Proofs.YtlmdhpfggobogaaDoor.Pure
