import Derived.Test.YtlmdhpfggobogaaDoorQSk26
import Derived.Test.YtlmdhpfggobogaaDoorQSk24
import Derived.Test.YtlmdhpfggobogaaDoorQSk9
import Derived.Test.YtlmdhpfggobogaaDoorQSk23
namespace Go.Proofs.YtlmdhpfggobogaaDoor.Pure
open Go.Proofs.YtlmdhpfggobogaaDoor.G hiding bytesOf_length
open Go.RowKit Go.Proofs.YtlmdhpfggobogaaDoorW.PrintWords Go.Proofs.YtlmdhpfggobogaaDoorW.PrintLast
set_option linter.unusedVariables false
def readP : List Int → List ByteArray → S29 → Option S29
  | [], _, o => some o
  | _ :: _, [], _ => none
  | c :: t, x :: xs, o => if c = 115 then (if (skuT x).2 = true then readP t xs { o with f4 := (skuT x).1 } else none) else match numR x with
    | some v => readP t xs (setF o c v)
    | none => none
theorem readAll_P : ∀ (T : List Int) (xs : List ByteArray) (o : S29), T.length ≤ xs.length → (∀ x ∈ xs, x.size ≤ 8796093022208) → Ev (fun k => readAll k T xs o) (readP T xs o)
  | [], _, o, _, _ => Ev.now _
  | c :: t, [], o, h, _ => by simp at h
  | c :: t, x :: xs, o, h, hx => by
    have h1 := hx x (by simp)
    have ht : t.length ≤ xs.length := by simpa using h
    have hxs : ∀ y ∈ xs, y.size ≤ 8796093022208 := fun y hy => hx y (by simp [hy])
    simp only [readP]
    by_cases hc : c = 115
    · rw [if_pos hc]
      refine Ev.congr (fun k => ?_) (Ev.bind (f := fun k r => if r.2 = true then readAll k t xs { o with f4 := r.1 } else some none) (readSku_ev x (by omega)) ?_)
      · simp only [readAll]
        rw [if_pos hc]
      · by_cases hr : (skuT x).2 = true
        · rw [if_pos hr]
          exact Ev.congr (fun k => if_pos hr) (readAll_P t xs _ ht hxs)
        · rw [if_neg hr]
          exact Ev.congr (fun k => if_neg hr) (Ev.now _)
    · rw [if_neg hc]
      have hn : script_readNumber.f x = some (rdNum x) := by unfold script_readNumber.f; rw [if_pos (by omega)]
      unfold numR
      by_cases hr : (rdNum x).2 = true
      · rw [if_pos hr]
        refine Ev.congr (fun k => ?_) (readAll_P t xs (setF o c (rdNum x).1) ht hxs)
        simp only [readAll]
        rw [if_neg hc, hn, Option.bind_some, if_pos hr]
      · rw [if_neg hr]
        refine Ev.congr (f := fun _ => some none) (fun k => ?_) (Ev.now _)
        simp only [readAll]
        rw [if_neg hc, hn, Option.bind_some, if_neg hr]
def stepP (x : ByteArray) (xs : List ByteArray) : Int × Int × Int × Int × ByteArray × Int × Int × Bool :=
  if (shp (kindUpto x 16)).1.toList == x.toList then
    (if xs.length = (shp (kindUpto x 16)).2.size then stepEnd (kindUpto x 16) (readP (bytesOf (shp (kindUpto x 16)).2) xs ⟨kindUpto x 16, 0, 0, 0, ⟨#[]⟩, 0, 0⟩) else tupB zeroO false)
  else tupB zeroO false
theorem step_P (x : ByteArray) (xs : List ByteArray) (hl : xs.length < 4611686018427387903) (hx : ∀ y ∈ xs, y.size ≤ 8796093022208) : Ev (fun k => script_step.f k (x :: xs)) (stepP x xs) := by
  show Ev (fun k => stepC k x xs) _
  unfold stepC stepP
  refine Ev.congr (fun k => if_pos (by rw [List.length_cons]; omega)) ?_
  by_cases h1 : ((shp (kindUpto x 16)).1.toList == x.toList) = true
  · rw [if_pos h1]
    refine Ev.congr (fun k => if_pos h1) ?_
    by_cases h2 : xs.length = (shp (kindUpto x 16)).2.size
    · rw [if_pos h2]
      refine Ev.congr (fun k => if_pos h2) ?_
      obtain ⟨K, hK⟩ := readAll_P (bytesOf (shp (kindUpto x 16)).2) xs ⟨kindUpto x 16, 0, 0, 0, ⟨#[]⟩, 0, 0⟩ (by rw [shp_sizes, h2]; exact Nat.le_refl _) hx
      refine ⟨K, fun k hk => ?_⟩
      have := hK k hk
      dsimp only at this ⊢
      rw [this]; rfl
    · rw [if_neg h2]
      exact Ev.congr (fun k => if_neg h2) (Ev.now _)
  · rw [if_neg h1]
    exact Ev.congr (fun k => if_neg h1) (Ev.now _)
theorem words_small (s : ByteArray) (hs : s.size < 8796093022208) {w : List Int} {ws : List (List Int)} (h : run false (bytesOf s) .gap [] = some (w :: ws)) : (ws.map strOfNums).length < 4611686018427387903 ∧ ∀ y ∈ ws.map strOfNums, y.size ≤ 8796093022208 := by
  have h1 := run_len false _ _ _ _ rfl h
  rw [G.bytesOf_length] at h1
  simp [stW] at h1
  have h2 := run_size false s.size _ _ _ _ (by simp) (by rw [G.bytesOf_length]; simp [stW]) h
  refine ⟨by rw [List.length_map]; omega, fun y hy => ?_⟩
  obtain ⟨u, hu, rfl⟩ := List.mem_map.1 hy
  have := h2 u (by simp [hu])
  have e : (strOfNums u).size = u.length := by rw [← G.bytesOf_length]; simp [bytesOf, strOfNums]
  omega
end Go.Proofs.YtlmdhpfggobogaaDoor.Pure

namespace Go.Proofs.YtlmdhpfggobogaaDoor.G
open Go.RowKit Go.Proofs.YtlmdhpfggobogaaDoorW.PrintWords Go.Proofs.YtlmdhpfggobogaaDoorW.PrintLast Go.Proofs.YtlmdhpfggobogaaDoorW.PrintMore
set_option linter.unusedVariables false
def readN : Nat → List ByteArray → S23 → Option S23
  | _, [], h => some h
  | i, x :: xs, h => match numR x with
    | some v => readN (i + 1) xs (setH h i v)
    | none => none
def headN (x : ByteArray) (xs : List ByteArray) : Int × Int × Int × Int × Int × Int × Bool :=
  if xs.length = 6 then (if (x.toList == storeB.toList) = true then outH (readN 0 xs zeroH) else outH none) else outH none
end Go.Proofs.YtlmdhpfggobogaaDoor.G
