import Derived.Test.YtlmdhpfggobogaaDoorQSm26
import Derived.Test.YtlmdhpfggobogaaDoorQSm24
import Derived.Test.YtlmdhpfggobogaaDoorQSm9
import Derived.Test.YtlmdhpfggobogaaDoorQSm23
namespace Go.Proofs.YtlmdhpfggobogaaDoor.Pure
open Go.Proofs.YtlmdhpfggobogaaDoor.G hiding bytesOf_length
open Go.RowKit Go.Proofs.YtlmdhpfggobogaaDoorW.PrintWords Go.Proofs.YtlmdhpfggobogaaDoorW.PrintLast
set_option linter.unusedVariables false
def readP : List Int → List ByteArray → S29 → Option S29
  | [], _, o => some o
  | _ :: _, [], _ => none
  | c :: t, x :: xs, o => if c = 115 then (if (skuT x).2 = true then readP t xs { o with f4 := (skuT x).1 } else none) else match numR x with
    | some v => readP t xs (setF o c v)
    | none => none
theorem readAll_P : ∀ (T : List Int) (xs : List ByteArray) (o : S29), T.length ≤ xs.length → (∀ x ∈ xs, x.size ≤ 8796093022208) → Ev (fun k => readAll k T xs o) (readP T xs o)
  | [], _, o, _, _ => Ev.now _
  | c :: t, [], o, h, _ => by simp at h
  | c :: t, x :: xs, o, h, hx => by
    have h1 := hx x (by simp)
    have ht : t.length ≤ xs.length := by simpa using h
    have hxs : ∀ y ∈ xs, y.size ≤ 8796093022208 := fun y hy => hx y (by simp [hy])
    simp only [readP]
    by_cases hc : c = 115
    · rw [if_pos hc]
      refine Ev.congr (fun k => ?_) (Ev.bind (f := fun k r => if r.2 = true then readAll k t xs { o with f4 := r.1 } else some none) (readSku_ev x (by omega)) ?_)
      · simp only [readAll]
        rw [if_pos hc]
      · by_cases hr : (skuT x).2 = true
        · rw [if_pos hr]
          exact Ev.congr (fun k => if_pos hr) (readAll_P t xs _ ht hxs)
        · rw [if_neg hr]
          exact Ev.congr (fun k => if_neg hr) (Ev.now _)
    · rw [if_neg hc]
      have hn : script_readNumber.f x = some (rdNum x) := by unfold script_readNumber.f; rw [if_pos (by omega)]
      unfold numR
      by_cases hr : (rdNum x).2 = true
      · rw [if_pos hr]
        refine Ev.congr (fun k => ?_) (readAll_P t xs (setF o c (rdNum x).1) ht hxs)
        simp only [readAll]
        rw [if_neg hc, hn, Option.bind_some, if_pos hr]
      · rw [if_neg hr]
        refine Ev.congr (f := fun _ => some none) (fun k => ?_) (Ev.now _)
        simp only [readAll]
        rw [if_neg hc, hn, Option.bind_some, if_neg hr]
def stepP (x : ByteArray) (xs : List ByteArray) : Int × Int × Int × Int × ByteArray × Int × Int × Bool :=
  if (shp (kindUpto x 16)).1.toList == x.toList then
    (if xs.length = (shp (kindUpto x 16)).2.size then stepEnd (kindUpto x 16) (readP (bytesOf (shp (kindUpto x 16)).2) xs ⟨kindUpto x 16, 0, 0, 0, ⟨#[]⟩, 0, 0⟩) else tupB zeroO false)
  else tupB zeroO false
theorem step_P (x : ByteArray) (xs : List ByteArray) (hl : xs.length < 4611686018427387903) (hx : ∀ y ∈ xs, y.size ≤ 8796093022208) : Ev (fun k => script_step.f k (x :: xs)) (stepP x xs) := by
  show Ev (fun k => stepC k x xs) _
  unfold stepC stepP
  refine Ev.congr (fun k => if_pos (by rw [List.length_cons]; omega)) ?_
  by_cases h1 : ((shp (kindUpto x 16)).1.toList == x.toList) = true
  · rw [if_pos h1]
    refine Ev.congr (fun k => if_pos h1) ?_
    by_cases h2 : xs.length = (shp (kindUpto x 16)).2.size
    · rw [if_pos h2]
      refine Ev.congr (fun k => if_pos h2) ?_
      obtain ⟨K, hK⟩ := readAll_P (bytesOf (shp (kindUpto x 16)).2) xs ⟨kindUpto x 16, 0, 0, 0, ⟨#[]⟩, 0, 0⟩ (by rw [shp_sizes, h2]; exact Nat.le_refl _) hx
      refine ⟨K, fun k hk => ?_⟩
      have := hK k hk
      dsimp only at this ⊢
      rw [this]; rfl
    · rw [if_neg h2]
      exact Ev.congr (fun k => if_neg h2) (Ev.now _)
  · rw [if_neg h1]
    exact Ev.congr (fun k => if_neg h1) (Ev.now _)
theorem contains_eq (s : ByteArray) : strings_Contains.f s ⟨#[10]⟩ = some (decide ((10 : Int) ∈ bytesOf s)) := by
  by_cases h : (10 : Int) ∈ bytesOf s
  · unfold strings_Contains.f
    rw [if_pos (by decide), decide_eq_true h]
    congr 1
    apply decide_eq_true
    show 0 ≤ Lib.indexByte s.data.toList 10
    have hge := Lib.indexByte_ge s.data.toList 10
    by_cases hn : Lib.indexByte s.data.toList 10 = -1
    · exfalso
      unfold bytesOf at h
      obtain ⟨b, hb, hb2⟩ := List.mem_map.1 h
      obtain ⟨n, hn2, e⟩ := List.getElem_of_mem hb
      refine Lib.indexByte_none hn n ?_
      rw [List.getElem?_eq_getElem hn2, e]
      congr 1
      apply UInt8.toNat_inj.1
      have : (10 : UInt8).toNat = 10 := rfl
      omega
    · omega
  · rw [no_end s h, decide_eq_false h]
def badO : Int × Int × Int × Int × ByteArray × Int × Int × Int := (0, 0, 0, 0, (⟨#[]⟩ : ByteArray), 0, 0, 17)
def outO (r : Int × Int × Int × Int × ByteArray × Int × Int × Bool) : Int × Int × Int × Int × ByteArray × Int × Int × Int :=
  if r.2.2.2.2.2.2.2 = true then (r.1, r.2.1, r.2.2.1, r.2.2.2.1, r.2.2.2.2.1, r.2.2.2.2.2.1, r.2.2.2.2.2.2.1, 0) else badO
def opW : Option (List (List Int)) → Option (Int × Int × Int × Int × ByteArray × Int × Int × Bool)
  | some (w :: ws) => some (stepP (strOfNums w) (ws.map strOfNums))
  | _ => none
def opsP (s : ByteArray) : Int × Int × Int × Int × ByteArray × Int × Int × Int :=
  if (10 : Int) ∈ bytesOf s ∨ silI (bytesOf s) = true then badO else match opW (run false (bytesOf s) .gap []) with
    | some r => outO r
    | none => badO
theorem words_small (s : ByteArray) (hs : s.size < 8796093022208) {w : List Int} {ws : List (List Int)} (h : run false (bytesOf s) .gap [] = some (w :: ws)) : (ws.map strOfNums).length < 4611686018427387903 ∧ ∀ y ∈ ws.map strOfNums, y.size ≤ 8796093022208 := by
  have h1 := run_len false _ _ _ _ rfl h
  rw [G.bytesOf_length] at h1
  simp [stW] at h1
  have h2 := run_size false s.size _ _ _ _ (by simp) (by rw [G.bytesOf_length]; simp [stW]) h
  refine ⟨by rw [List.length_map]; omega, fun y hy => ?_⟩
  obtain ⟨u, hu, rfl⟩ := List.mem_map.1 hy
  have := h2 u (by simp [hu])
  have e : (strOfNums u).size = u.length := by rw [← G.bytesOf_length]; simp [bytesOf, strOfNums]
  omega
theorem parseOp_P (s : ByteArray) (hs : s.size < 8796093022208) : Ev (fun k => script_ParseOp.f k s) (opsP s) := by
  obtain ⟨L, hL⟩ := words_said s hs
  unfold script_ParseOp.f opsP
  have bad : ∀ l, Ev (fun k => script_ParseOp.j0 k l true) badO := fun l => by
    refine Ev.step (f := fun _ => some badO) (fun k => ?_) (Ev.now _)
    simp only [script_ParseOp.j0]
    rw [if_pos trivial]
    rfl
  refine Ev.bind hL ?_
  by_cases h10 : (10 : Int) ∈ bytesOf s
  · rw [if_pos (.inl h10)]
    exact Ev.congr (fun k => by rw [contains_eq, Option.bind_some, decide_eq_true h10, if_pos rfl]) (bad _)
  · by_cases hsil : silI (bytesOf s) = true
    · rw [if_pos (.inr hsil), run_silent _ hsil]
      refine Ev.congr (fun k => ?_) (bad [])
      rw [contains_eq, Option.bind_some, decide_eq_false h10, if_neg (by decide)]
      rfl
    · rw [if_neg (fun e => e.elim h10 hsil)]
      obtain ⟨e1, e2⟩ := run_loud (bytesOf s) (by simpa using hsil)
      rw [e1]
      cases hrun : run false (bytesOf s) .gap [] with
      | none =>
        refine Ev.congr (fun k => ?_) (bad L)
        rw [contains_eq, Option.bind_some, decide_eq_false h10, if_neg (by decide)]
        rfl
      | some r =>
        cases r with
        | nil => exact absurd rfl (e2 [] hrun)
        | cons w ws =>
          obtain ⟨b1, b2⟩ := words_small s hs hrun
          have hst := step_P (strOfNums w) (ws.map strOfNums) b1 b2
          refine Ev.congr (f := fun k => script_ParseOp.j0 k (strOfNums w :: ws.map strOfNums) false) (fun k => ?_) ?_
          · rw [contains_eq, Option.bind_some, decide_eq_false h10, if_neg (by decide)]
            show (if true = true then _ else _) = _
            rw [if_pos rfl]
            show script_ParseOp.j0 k (strOfNums w :: ws.map strOfNums) (((strOfNums w :: ws.map strOfNums).length : Int) == 0) = _
            rw [show (((strOfNums w :: ws.map strOfNums).length : Int) == 0) = false from by rw [beq_eq_false_iff_ne, List.length_cons]; omega]
          · refine Ev.step (f := fun k => (script_step.f k (strOfNums w :: ws.map strOfNums)).bind fun bt130 => (if bt130.2.2.2.2.2.2.2 = true then (some (bt130.1, bt130.2.1, bt130.2.2.1, bt130.2.2.2.1, bt130.2.2.2.2.1, bt130.2.2.2.2.2.1, bt130.2.2.2.2.2.2.1, 0)) else (some (0, 0, 0, 0, (⟨#[]⟩ : ByteArray), 0, 0, 17)))) (fun k => by simp only [script_ParseOp.j0]; rw [if_neg (by decide)]) ?_
            refine Ev.bind hst ?_
            show Ev _ (outO (stepP (strOfNums w) (ws.map strOfNums)))
            generalize stepP (strOfNums w) (ws.map strOfNums) = r
            unfold outO
            by_cases hr : r.2.2.2.2.2.2.2 = true
            · exact ⟨0, fun k _ => by dsimp only; rw [if_pos hr, if_pos hr]; try rfl⟩
            · exact ⟨0, fun k _ => by dsimp only; rw [if_neg hr, if_neg hr]; try rfl⟩
end Go.Proofs.YtlmdhpfggobogaaDoor.Pure

namespace Go.Proofs.YtlmdhpfggobogaaDoor.G
open Go.RowKit Go.Proofs.YtlmdhpfggobogaaDoorW.PrintWords Go.Proofs.YtlmdhpfggobogaaDoorW.PrintLast Go.Proofs.YtlmdhpfggobogaaDoorW.PrintMore
set_option linter.unusedVariables false
def readN : Nat → List ByteArray → S23 → Option S23
  | _, [], h => some h
  | i, x :: xs, h => match numR x with
    | some v => readN (i + 1) xs (setH h i v)
    | none => none
def headN (x : ByteArray) (xs : List ByteArray) : Int × Int × Int × Int × Int × Int × Bool :=
  if xs.length = 6 then (if (x.toList == storeB.toList) = true then outH (readN 0 xs zeroH) else outH none) else outH none
end Go.Proofs.YtlmdhpfggobogaaDoor.G
