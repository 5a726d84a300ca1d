import Derived.Test.YtlmdhpfggobogaaDoorQSm27
import Derived.Test.YtlmdhpfggobogaaDoorQSm28
import Derived.Test.YtlmdhpfggobogaaDoorQSm6
import Derived.Test.YtlmdhpfggobogaaDoorQSm26
import Derived.Test.YtlmdhpfggobogaaDoorQSm23
import Derived.Test.YtlmdhpfggobogaaDoorQSm24
namespace Go.Proofs.YtlmdhpfggobogaaDoor.Pure
open Go.Proofs.YtlmdhpfggobogaaDoor.G hiding bytesOf_length
open Go.RowKit Go.Proofs.YtlmdhpfggobogaaDoorW.PrintWords Go.Proofs.YtlmdhpfggobogaaDoorW.PrintLast
set_option linter.unusedVariables false
abbrev PT := Int × Int × Int × Int × Int × Int × List S29 × Int × Int
def badP (n : Int) : PT := (0, 0, 0, 0, 0, 0, [], n, 17)
def goodP (h : S23) (ops : List S29) : PT := (h.f0, h.f1, h.f2, h.f3, h.f4, h.f5, ops, 0, 0)
def opOf (r : Int × Int × Int × Int × ByteArray × Int × Int × Bool) : S29 := ⟨r.1, r.2.1, r.2.2.1, r.2.2.2.1, r.2.2.2.2.1, r.2.2.2.2.2.1, r.2.2.2.2.2.2.1⟩
def hdOf (r : Int × Int × Int × Int × Int × Int × Bool) : S23 := ⟨r.1, r.2.1, r.2.2.1, r.2.2.2.1, r.2.2.2.2.1, r.2.2.2.2.2.1⟩
def lineP (b : Bool) (h : S23) (ops : List S29) (l : List Int) : Option (Bool × S23 × List S29) :=
  if silI l = true then some (b, h, ops) else match run false l .gap [] with
    | some (w :: ws) =>
      if b = true then (if (stepP (strOfNums w) (ws.map strOfNums)).2.2.2.2.2.2.2 = true then some (true, h, ops ++ [opOf (stepP (strOfNums w) (ws.map strOfNums))]) else none)
      else (if (headN (strOfNums w) (ws.map strOfNums)).2.2.2.2.2.2 = true then some (true, hdOf (headN (strOfNums w) (ws.map strOfNums)), ops) else none)
    | _ => none
def parsC : List (List Int) → Nat → Bool → S23 → List S29 → PT
  | [], i, b, h, ops => if b = true then goodP h ops else badP ((i + 1 : Nat) : Int)
  | l :: t, i, b, h, ops => match lineP b h ops l with
    | some r => parsC t (i + 1) r.1 r.2.1 r.2.2
    | none => badP ((i + 1 : Nat) : Int)
def linesT : List Int → List Int → List (List Int)
  | cur, [] => if cur = [] then [] else [cur]
  | cur, c :: t => if c = 10 then cur :: linesT [] t else linesT (cur ++ [c]) t
def trimL (ls : List (List Int)) : List (List Int) := if ls.getLast? = some [] then ls.dropLast else ls
theorem linesA_ne : ∀ (l cur : List Int), linesA cur l ≠ []
  | [], cur => by simp [linesA]
  | c :: t, cur => by
    unfold linesA
    split
    · simp
    · exact linesA_ne t _
theorem trim_lines : ∀ (l cur : List Int), trimL (linesA cur l) = linesT cur l
  | [], cur => by
    unfold linesA linesT trimL
    by_cases h : cur = []
    · rw [if_pos h, h]; rfl
    · rw [if_neg h, if_neg (by simpa using h)]
  | c :: t, cur => by
    unfold linesA linesT
    by_cases h : c = 10
    · rw [if_pos h, if_pos h, ← trim_lines t []]
      have hne := linesA_ne t []
      unfold trimL
      rw [List.getLast?_cons_of_ne_nil hne, List.dropLast_cons_of_ne_nil hne]
      split <;> rfl
    · rw [if_neg h, if_neg h]
      exact trim_lines t _
theorem readH_N (i : Nat) : ∀ (xs : List ByteArray) (h : S23), (∀ y ∈ xs, y.size ≤ 8796093022208) → readH i xs h = some (readN i xs h)
  | [], h, _ => rfl
  | x :: xs, h, hx => by
    have h1 := hx x (by simp)
    have hn : script_readNumber.f x = some (rdNum x) := by unfold script_readNumber.f; rw [if_pos (by omega)]
    unfold readH readN numR
    rw [hn, Option.bind_some]
    by_cases hr : (rdNum x).2 = true
    · rw [if_pos hr, if_pos hr]
      exact readH_N (i + 1) xs _ (fun y hy => hx y (by simp [hy]))
    · rw [if_neg hr, if_neg hr]
theorem head_P (x : ByteArray) (xs : List ByteArray) (hl : xs.length < 4611686018427387903) (hx : ∀ y ∈ xs, y.size ≤ 8796093022208) : script_head.f (x :: xs) = some (headN x xs) := by
  show headC x xs = _
  unfold headC headN
  rw [if_pos (by rw [List.length_cons]; omega), readH_N 0 xs zeroH hx]
  by_cases h1 : (x.toList == storeB.toList) = true
  · rw [if_pos h1, if_pos h1]
    split <;> rfl
  · rw [if_neg h1, if_neg h1, ite_self]
theorem parse_l0 (Ls : List ByteArray) (hLs : Ls.length < 1099511627776) (hsz : ∀ s ∈ Ls, s.size < 8796093022208) : ∀ (d i : Nat) (b : Bool) (h : S23) (ops : List S29), i + d = Ls.length → ops.length ≤ i →
    Ev (fun k => script_Parse.l0 k b Ls Ls (Ls.length : Int) i h.f0 h.f1 h.f2 h.f3 h.f4 h.f5 ops) (parsC ((Ls.drop i).map bytesOf) i b h ops)
  | 0, i, b, h, ops, hd, ho => by
    rw [List.drop_eq_nil_of_le (by omega)]
    refine Ev.step (f := fun _ => some (if b = true then goodP h ops else badP ((i + 1 : Nat) : Int))) (fun k => ?_) (Ev.now _)
    simp only [script_Parse.l0]
    rw [if_neg (by omega), show (Ls.length : Int) = (i : Int) by omega, w64_nat i (by omega)]
    split <;> rfl
  | d + 1, i, b, h, ops, hd, ho => by
    have hi : i < Ls.length := by omega
    have hrd : rdOf ByteArray.empty Ls (i : Int) = Ls[i] := by
      unfold rdOf
      rw [Int.toNat_natCast, List.getD_eq_getElem?_getD, List.getElem?_eq_getElem hi]; rfl
    have hs := hsz Ls[i] (List.getElem_mem hi)
    rw [List.drop_eq_getElem_cons hi, List.map_cons]
    generalize Ls[i] = s at hrd hs
    have hwn := w64_nat i (by omega)
    have next : ∀ (b' : Bool) (h' : S23) (ops' : List S29), ops'.length ≤ i + 1 → Ev (fun k => script_Parse.l0 k b' Ls Ls (Ls.length : Int) ((i + 1 : Nat) : Int) h'.f0 h'.f1 h'.f2 h'.f3 h'.f4 h'.f5 ops') (parsC ((Ls.drop (i + 1)).map bytesOf) (i + 1) b' h' ops') :=
      fun b' h' ops' ho' => parse_l0 Ls hLs hsz d (i + 1) b' h' ops' (by omega) ho'
    obtain ⟨L, hL⟩ := words_said s hs
    have st : ∀ k, script_Parse.l0 (k + 1) b Ls Ls (Ls.length : Int) i h.f0 h.f1 h.f2 h.f3 h.f4 h.f5 ops = (script_words.f k s).bind fun bt111 => (if bt111.2 = true then (script_Parse.j2 k b Ls i bt111.1 bt111.2 Ls (Ls.length : Int) i ((bt111.1.length : Int) == 0) h.f0 h.f1 h.f2 h.f3 h.f4 h.f5 ops) else (script_Parse.j2 k b Ls i bt111.1 bt111.2 Ls (Ls.length : Int) i false h.f0 h.f1 h.f2 h.f3 h.f4 h.f5 ops)) := by
      intro k
      simp only [script_Parse.l0]
      rw [if_pos (by omega), if_pos (by omega), if_pos (by omega), hrd]
    refine Ev.step st ?_
    refine Ev.bind hL ?_
    unfold parsC lineP
    by_cases hsil : silI (bytesOf s) = true
    · rw [if_pos hsil, run_silent _ hsil]
      refine Ev.congr (f := fun k => script_Parse.j2 k b Ls i [] true Ls (Ls.length : Int) i true h.f0 h.f1 h.f2 h.f3 h.f4 h.f5 ops) (fun k => by rw [if_pos rfl]; rfl) ?_
      refine Ev.step (fun k => ?_) (next b h ops (by omega))
      simp only [script_Parse.j2]
      rw [if_pos trivial, hwn]
    · rw [if_neg hsil]
      obtain ⟨e1, e2⟩ := run_loud (bytesOf s) (by simpa using hsil)
      rw [e1]
      have bad : ∀ (M : List ByteArray), Ev (fun k => script_Parse.j3 k b Ls i M false Ls (Ls.length : Int) i false h.f0 h.f1 h.f2 h.f3 h.f4 h.f5 ops) (badP ((i + 1 : Nat) : Int)) := by
        intro M
        refine Ev.step (f := fun _ => some (badP ((i + 1 : Nat) : Int))) (fun k => ?_) (Ev.now _)
        simp only [script_Parse.j3]
        rw [if_neg (by decide), if_neg (by decide), hwn]
        rfl
      cases hrun : run false (bytesOf s) .gap [] with
      | none =>
        refine Ev.congr (f := fun k => script_Parse.j2 k b Ls i L false Ls (Ls.length : Int) i false h.f0 h.f1 h.f2 h.f3 h.f4 h.f5 ops) (fun k => by rw [if_neg Bool.false_ne_true]) ?_
        refine Ev.step (fun k => ?_) (bad L)
        simp only [script_Parse.j2]
        rw [if_neg (by decide), if_neg (by decide)]
      | some r =>
        cases r with
        | nil => exact absurd rfl (e2 [] hrun)
        | cons w ws =>
          obtain ⟨b1, b2⟩ := words_small s hs hrun
          refine Ev.congr (f := fun k => script_Parse.j2 k b Ls i (strOfNums w :: ws.map strOfNums) true Ls (Ls.length : Int) i false h.f0 h.f1 h.f2 h.f3 h.f4 h.f5 ops) (fun k => ?_) ?_
          · show (if true = true then _ else _) = _
            rw [if_pos rfl]
            show script_Parse.j2 k b Ls i (strOfNums w :: ws.map strOfNums) true Ls (Ls.length : Int) i (((strOfNums w :: ws.map strOfNums).length : Int) == 0) _ _ _ _ _ _ _ = _
            rw [show (((strOfNums w :: ws.map strOfNums).length : Int) == 0) = false from by rw [beq_eq_false_iff_ne, List.length_cons]; omega]
          · refine Ev.step (f := fun k => script_Parse.j3 k b Ls i (strOfNums w :: ws.map strOfNums) true Ls (Ls.length : Int) i (!b) h.f0 h.f1 h.f2 h.f3 h.f4 h.f5 ops) (fun k => by simp only [script_Parse.j2]; rw [if_neg (by decide), if_pos trivial]) ?_
            cases b with
            | false =>
              dsimp only
              rw [if_neg (by decide)]
              have hh := head_P (strOfNums w) (ws.map strOfNums) b1 b2
              have st3 : ∀ k, script_Parse.j3 (k + 1) false Ls i (strOfNums w :: ws.map strOfNums) true Ls (Ls.length : Int) i (!false) h.f0 h.f1 h.f2 h.f3 h.f4 h.f5 ops = (if (headN (strOfNums w) (ws.map strOfNums)).2.2.2.2.2.2 = true then script_Parse.l0 k true Ls Ls (Ls.length : Int) ((i + 1 : Nat) : Int) (headN (strOfNums w) (ws.map strOfNums)).1 (headN (strOfNums w) (ws.map strOfNums)).2.1 (headN (strOfNums w) (ws.map strOfNums)).2.2.1 (headN (strOfNums w) (ws.map strOfNums)).2.2.2.1 (headN (strOfNums w) (ws.map strOfNums)).2.2.2.2.1 (headN (strOfNums w) (ws.map strOfNums)).2.2.2.2.2.1 ops else some (badP ((i + 1 : Nat) : Int))) := by
                intro k
                simp only [script_Parse.j3]
                rw [if_pos (by decide), hh, Option.bind_some, hwn]
                rfl
              refine Ev.step st3 ?_
              generalize headN (strOfNums w) (ws.map strOfNums) = r
              by_cases hr : r.2.2.2.2.2.2 = true
              · rw [if_pos hr]
                exact Ev.congr (fun k => if_pos hr) (next true (hdOf r) ops (by omega))
              · rw [if_neg hr]
                exact Ev.congr (fun k => if_neg hr) (Ev.now _)
            | true =>
              dsimp only
              rw [if_pos rfl]
              have hst := step_P (strOfNums w) (ws.map strOfNums) b1 b2
              have st3 : ∀ k, script_Parse.j3 (k + 1) true Ls i (strOfNums w :: ws.map strOfNums) true Ls (Ls.length : Int) i (!true) h.f0 h.f1 h.f2 h.f3 h.f4 h.f5 ops = (script_step.f k (strOfNums w :: ws.map strOfNums)).bind fun bt123 => (if bt123.2.2.2.2.2.2.2 = true then script_Parse.l0 k true Ls Ls (Ls.length : Int) ((i + 1 : Nat) : Int) h.f0 h.f1 h.f2 h.f3 h.f4 h.f5 (ops ++ [opOf bt123]) else some (badP ((i + 1 : Nat) : Int))) := by
                intro k
                simp only [script_Parse.j3]
                rw [if_neg (by decide), if_pos trivial, hwn]
                congr 1
                funext bt123
                rw [if_pos (by omega)]
                rfl
              refine Ev.step st3 (Ev.bind hst ?_)
              generalize stepP (strOfNums w) (ws.map strOfNums) = r
              by_cases hr : r.2.2.2.2.2.2.2 = true
              · rw [if_pos hr]
                exact Ev.congr (fun k => if_pos hr) (next true h (ops ++ [opOf r]) (by rw [List.length_append, List.length_singleton]; omega))
              · rw [if_neg hr]
                exact Ev.congr (fun k => if_neg hr) (Ev.now _)
def parsP (s : ByteArray) : PT := parsC (linesT [] (bytesOf s)) 0 false zeroH []
theorem linesA_size (B : Nat) : ∀ (l cur : List Int), cur.length + l.length ≤ B → ∀ u ∈ linesA cur l, u.length ≤ B
  | [], cur, h, u, hu => by simp [linesA] at hu; subst hu; simpa using h
  | c :: t, cur, h, u, hu => by
    unfold linesA at hu
    rw [List.length_cons] at h
    split at hu
    · rcases List.mem_cons.1 hu with e | e
      · subst e; omega
      · exact linesA_size B t [] (by simp; omega) u e
    · exact linesA_size B t _ (by simp; omega) u hu
theorem linesA_len : ∀ (l cur : List Int), (linesA cur l).length ≤ l.length + 1
  | [], cur => by simp [linesA]
  | c :: t, cur => by
    unfold linesA
    split
    · have := linesA_len t []; simp; omega
    · have := linesA_len t (cur ++ [c]); simp; omega
theorem parse_P (s : ByteArray) (hs : s.size ≤ 1000000000) : Ev (fun k => script_Parse.f k s) (parsP s) := by
  unfold script_Parse.f
  obtain ⟨Ls, hLs⟩ : ∃ Ls, Lib.splitB nl 0 (Lib.countB s nl) s = Ls := ⟨_, rfl⟩
  have hsp : strings_Split.f s (⟨#[10]⟩ : ByteArray) = some Ls := by
    unfold strings_Split.f
    rw [if_pos ⟨by omega, by decide⟩]
    exact congrArg some hLs
  have hmap : Ls.map bytesOf = linesA [] (bytesOf s) := by rw [← hLs]; exact split_lines _ s (Nat.le_refl _)
  have hne : Ls ≠ [] := by
    intro e
    rw [e] at hmap
    exact linesA_ne _ _ hmap.symm
  have hlen : Ls.length ≤ s.size + 1 := by
    have := congrArg List.length hmap
    rw [List.length_map] at this
    have h2 := linesA_len (bytesOf s) []
    rw [G.bytesOf_length] at h2
    omega
  have hszs : ∀ u ∈ Ls, u.size < 8796093022208 := by
    intro u hu
    have h1 := linesA_size s.size (bytesOf s) [] (by rw [G.bytesOf_length]; simp) (bytesOf u) (by rw [← hmap]; exact List.mem_map.2 ⟨u, hu, rfl⟩)
    rw [G.bytesOf_length] at h1
    omega
  have hpos : 0 < Ls.length := List.length_pos_iff.2 hne
  have hw : wrap64 ((Ls.length : Int) - 1) = ((Ls.length - 1 : Nat) : Int) := by rw [w64 (by omega) (by omega)]; omega
  have hlast : rdOf ByteArray.empty Ls ((Ls.length - 1 : Nat) : Int) = Ls.getLast hne := by
    unfold rdOf
    rw [Int.toNat_natCast, List.getD_eq_getElem?_getD, List.getElem?_eq_getElem (by omega), List.getLast_eq_getElem]; rfl
  have htrim := trim_lines (bytesOf s) []
  rw [← hmap] at htrim
  have hgl : (Ls.map bytesOf).getLast? = some (bytesOf (Ls.getLast hne)) := by
    rw [List.getLast?_map, List.getLast?_eq_some_getLast hne]; rfl
  have go : ∀ Ms : List ByteArray, Ms.length ≤ Ls.length → (∀ u ∈ Ms, u ∈ Ls) → Ms.map bytesOf = linesT [] (bytesOf s) → Ev (fun k => script_Parse.j0 k false Ms 0 0 0 0 0 0) (parsP s) := by
    intro Ms h1 h2 h3
    have := parse_l0 Ms (by omega) (fun u hu => hszs u (h2 u hu)) Ms.length 0 false zeroH [] (by omega) (by simp)
    rw [List.drop_zero, h3] at this
    refine Ev.step (fun k => ?_) this
    simp only [script_Parse.j0]
    rfl
  have pre : ∀ k, ((strings_Split.f s (⟨#[10]⟩ : ByteArray)).bind fun t103 => (if 0 ≤ (wrap64 ((t103.length : Int) - 1)) then (if (wrap64 ((t103.length : Int) - 1)) < (t103.length : Int) then (if (rdOf ByteArray.empty t103 (wrap64 ((t103.length : Int) - 1))).toList = ([] : List UInt8) then (if (wrap64 ((t103.length : Int) - 1)) ≤ (t103.length : Int) then (script_Parse.j0 k false (t103.take ((wrap64 ((t103.length : Int) - 1)) : Int).toNat) 0 0 0 0 0 0) else (none)) else (script_Parse.j0 k false t103 0 0 0 0 0 0)) else (none)) else (none))) = (if (Ls.getLast hne).toList = ([] : List UInt8) then (script_Parse.j0 k false (Ls.take (Ls.length - 1)) 0 0 0 0 0 0) else (script_Parse.j0 k false Ls 0 0 0 0 0 0)) := by
    intro k
    rw [hsp, Option.bind_some, hw, if_pos (by omega), if_pos (by omega), hlast, if_pos (show ((Ls.length - 1 : Nat) : Int) ≤ (Ls.length : Int) by omega), Int.toNat_natCast]
  refine Ev.congr pre ?_
  have hemp : (Ls.getLast hne).toList = ([] : List UInt8) ↔ bytesOf (Ls.getLast hne) = [] := by
    rw [ByteArray.toList_eq]
    unfold bytesOf
    rw [List.map_eq_nil_iff]
  by_cases he : (Ls.getLast hne).toList = ([] : List UInt8)
  · refine Ev.congr (fun k => if_pos he) ?_
    have hb := hemp.1 he
    unfold trimL at htrim
    rw [hgl, hb, if_pos rfl] at htrim
    refine go _ (by rw [List.length_take]; omega) (fun u hu => List.mem_of_mem_take hu) ?_
    rw [← htrim, List.dropLast_eq_take, List.length_map, List.map_take]
  · refine Ev.congr (fun k => if_neg he) ?_
    unfold trimL at htrim
    rw [hgl, if_neg (fun e => he (hemp.2 (Option.some.inj e)))] at htrim
    exact go Ls (Nat.le_refl _) (fun u hu => hu) htrim
end Go.Proofs.YtlmdhpfggobogaaDoor.Pure

namespace Go.Proofs.YtlmdhpfggobogaaDoor.Pure
open Go.Proofs.YtlmdhpfggobogaaDoor.G hiding bytesOf_length
open Go.RowKit Go.Proofs.YtlmdhpfggobogaaDoorW.PrintWords Go.Proofs.YtlmdhpfggobogaaDoorW.PrintLast
set_option linter.unusedVariables false
theorem parsC_cases : ∀ (L : List (List Int)) (i : Nat) (b : Bool) (h : S23) (ops : List S29), (∃ h' ops', parsC L i b h ops = goodP h' ops') ∨ ∃ n : Nat, parsC L i b h ops = badP n ∧ i + 1 ≤ n ∧ n ≤ i + L.length + 1
  | [], i, b, h, ops => by
    unfold parsC
    by_cases hb : b = true
    · rw [if_pos hb]; exact .inl ⟨_, _, rfl⟩
    · rw [if_neg hb]; exact .inr ⟨i + 1, rfl, Nat.le_refl _, by simp⟩
  | l :: t, i, b, h, ops => by
    unfold parsC
    cases hl : lineP b h ops l with
    | none => exact .inr ⟨i + 1, rfl, Nat.le_refl _, by simp⟩
    | some r =>
      rcases parsC_cases t (i + 1) r.1 r.2.1 r.2.2 with h1 | ⟨n, h1, h2, h3⟩
      · exact .inl h1
      · exact .inr ⟨n, h1, by omega, by rw [List.length_cons]; omega⟩
theorem good_ne_bad {h : S23} {ops : List S29} {n : Int} (e : goodP h ops = badP n) : False := by
  have := congrArg (fun r : PT => r.2.2.2.2.2.2.2.2) e
  exact absurd (show (0 : Int) = 17 from this) (by decide)
end Go.Proofs.YtlmdhpfggobogaaDoor.Pure

namespace Go.Proofs.YtlmdhpfggobogaaDoor.Pure
open Go.Proofs.YtlmdhpfggobogaaDoor.G hiding bytesOf_length
open Go.RowKit Go.Proofs.YtlmdhpfggobogaaDoorW.PrintWords Go.Proofs.YtlmdhpfggobogaaDoorW.PrintLast
set_option linter.unusedVariables false
theorem Ev.one {α : Type} {g : Nat → Option α} {a b : α} (h1 : Ev g a) (h2 : Ev g b) : a = b := by
  obtain ⟨K1, h1⟩ := h1
  obtain ⟨K2, h2⟩ := h2
  have e1 := h1 (max K1 K2) (Nat.le_max_left _ _)
  have e2 := h2 (max K1 K2) (Nat.le_max_right _ _)
  rw [e1] at e2
  exact Option.some.inj e2
theorem line_no10 (o : S29) : 10 ∉ lineO o := fun h => by
  have := line_C _ _ _ _ _ _ _ 10 h
  omega
theorem line_loud (o : S29) : ¬ silI (lineO o) = true := fun h => by
  have h1 := run_silent _ h
  have h2 := line_run o.f0 o.f1 o.f2 o.f3 o.f4 o.f5 o.f6 true
  have h3 : run true (lineO o) .gap [] = some (bytesOf (shp o.f0).1 :: (bytesOf (shp o.f0).2).map (wordI o.f0 o.f1 o.f2 o.f3 o.f4 o.f5 o.f6)) := h2
  rw [h3] at h1
  exact absurd (Option.some.inj h1) (by simp)
theorem stepP_line (o : S29) (ho : okS o) : stepP (strOfNums (bytesOf (shp o.f0).1)) (((bytesOf (shp o.f0).2).map (wordI o.f0 o.f1 o.f2 o.f3 o.f4 o.f5 o.f6)).map strOfNums) = tupB (plO o) true := by
  have h1 := step_line o ho
  have hs := line_size o ho
  have e : bytesOf (strOfNums (lineO o)) = lineO o := bytesOf_str _ (line_range _ _ _ _ _ _ _)
  have h3 : run false (bytesOf (strOfNums (lineO o))) .gap [] = some (bytesOf (shp o.f0).1 :: (bytesOf (shp o.f0).2).map (wordI o.f0 o.f1 o.f2 o.f3 o.f4 o.f5 o.f6)) := by
    rw [e]; exact line_run o.f0 o.f1 o.f2 o.f3 o.f4 o.f5 o.f6 false
  obtain ⟨b1, b2⟩ := words_small (strOfNums (lineO o)) (by omega) h3
  exact Ev.one (step_P _ _ b1 b2) h1
theorem lineP_op (o : S29) (ho : okS o) (h : S23) (ops : List S29) : lineP true h ops (lineO o) = some (true, h, ops ++ [plO o]) := by
  have h2 : run false (lineO o) .gap [] = some (bytesOf (shp o.f0).1 :: (bytesOf (shp o.f0).2).map (wordI o.f0 o.f1 o.f2 o.f3 o.f4 o.f5 o.f6)) := line_run o.f0 o.f1 o.f2 o.f3 o.f4 o.f5 o.f6 false
  unfold lineP
  rw [if_neg (line_loud o), h2]
  dsimp only
  rw [if_pos rfl, stepP_line o ho]
  rfl
end Go.Proofs.YtlmdhpfggobogaaDoor.Pure

namespace Go.Proofs.YtlmdhpfggobogaaDoor.Pure
open Go.Proofs.YtlmdhpfggobogaaDoor.G hiding bytesOf_length
open Go.RowKit Go.Proofs.YtlmdhpfggobogaaDoorW.PrintWords Go.Proofs.YtlmdhpfggobogaaDoorW.PrintLast
set_option linter.unusedVariables false
theorem linesA_one : ∀ (x cur : List Int), 10 ∉ x → linesA cur x = [cur ++ x]
  | [], cur, _ => by rw [linesA, List.append_nil]
  | c :: t, cur, h => by
    have hc : ¬ c = 10 := fun e => h (by rw [e]; simp)
    rw [linesA, if_neg hc, linesA_one t _ (fun hm => h (by simp [hm]))]
    simp
theorem linesA_app (x : List Int) (hx : 10 ∉ x) : ∀ (l cur : List Int), linesA cur (l ++ 10 :: x) = linesA cur l ++ [x]
  | [], cur => by
    show linesA cur (10 :: x) = _
    conv => lhs; unfold linesA
    rw [if_pos rfl, linesA_one x [] hx, linesA]; rfl
  | c :: t, cur => by
    show linesA cur (c :: (t ++ 10 :: x)) = _
    conv => rhs; unfold linesA
    rw [linesA]
    by_cases h : c = 10
    · rw [if_pos h, if_pos h, linesA_app x hx t []]; rfl
    · rw [if_neg h, if_neg h, linesA_app x hx t _]
theorem linesA_count : ∀ (l cur : List Int), (linesA cur l).length = l.count 10 + 1
  | [], cur => by simp [linesA]
  | c :: t, cur => by
    rw [linesA]
    by_cases h : c = 10
    · rw [if_pos h, List.length_cons, linesA_count t [], h, List.count_cons_self]
    · rw [if_neg h, linesA_count t _, List.count_cons_of_ne h]
theorem parsC_app : ∀ (L M : List (List Int)) (i : Nat) (b : Bool) (h0 h : S23) (o0 ops : List S29), parsC L i b h0 o0 = goodP h ops → parsC (L ++ M) i b h0 o0 = parsC M (i + L.length) true h ops
  | [], M, i, b, h0, h, o0, ops, e => by
    unfold parsC at e
    by_cases hb : b = true
    · rw [if_pos hb] at e
      simp only [goodP, Prod.mk.injEq] at e
      obtain ⟨e0, e1, e2, e3, e4, e5, e6, _⟩ := e
      obtain ⟨x0, x1, x2, x3, x4, x5⟩ := h0
      obtain ⟨y0, y1, y2, y3, y4, y5⟩ := h
      simp only at e0 e1 e2 e3 e4 e5
      subst e0; subst e1; subst e2; subst e3; subst e4; subst e5; subst e6; subst hb
      rfl
    · rw [if_neg hb] at e; exact (good_ne_bad e.symm).elim
  | l :: t, M, i, b, h0, h, o0, ops, e => by
    rw [parsC] at e
    show parsC (l :: (t ++ M)) i b h0 o0 = _
    rw [parsC]
    cases hl : lineP b h0 o0 l with
    | none => rw [hl] at e; exact (good_ne_bad e.symm).elim
    | some r =>
      rw [hl] at e
      dsimp only at e ⊢
      rw [parsC_app t M (i + 1) r.1 r.2.1 h r.2.2 ops e, List.length_cons]
      congr 1
      omega
theorem lineP_nil (b : Bool) (h : S23) (ops : List S29) : lineP b h ops [] = some (b, h, ops) := by
  unfold lineP
  rw [if_pos (by rfl)]
theorem parsA_good (l : List Int) (h : S23) (ops : List S29) (e : parsC (linesT [] l) 0 false zeroH [] = goodP h ops) : parsC (linesA [] l) 0 false zeroH [] = goodP h ops := by
  rw [← trim_lines] at e
  unfold trimL at e
  by_cases hg : (linesA [] l).getLast? = some []
  · rw [if_pos hg] at e
    obtain ⟨ys, hy⟩ := List.getLast?_eq_some_iff.1 hg
    rw [hy, List.dropLast_concat] at e
    rw [hy, parsC_app ys [[]] 0 false zeroH h [] ops e, parsC, lineP_nil]
    dsimp only
    rw [parsC, if_pos rfl]
  · rw [if_neg hg] at e; exact e
theorem more_lines (l x : List Int) (hx : 10 ∉ x) (h : S23) (ops : List S29) (e : parsC (linesT [] l) 0 false zeroH [] = goodP h ops) :
    (∀ ops', lineP true h ops x = some (true, h, ops') → parsC (linesT [] (l ++ 10 :: x)) 0 false zeroH [] = goodP h ops') ∧ (lineP true h ops x = none → parsC (linesT [] (l ++ 10 :: x)) 0 false zeroH [] = badP ((l.count 10 + 2 : Nat) : Int)) := by
  have ea := parsA_good l h ops e
  rw [← trim_lines, linesA_app x hx]
  unfold trimL
  rw [List.getLast?_concat, List.dropLast_concat]
  by_cases hn : x = []
  · rw [if_pos (by rw [hn])]
    refine ⟨fun ops' h1 => ?_, fun h1 => ?_⟩
    · rw [hn, lineP_nil] at h1
      simp only [Option.some.injEq, Prod.mk.injEq, true_and] at h1
      rw [← h1]; exact ea
    · rw [hn, lineP_nil] at h1; cases h1
  · rw [if_neg (fun he => hn (Option.some.inj he)), parsC_app _ _ 0 false zeroH h [] ops ea, parsC]
    refine ⟨fun ops' h1 => ?_, fun h1 => ?_⟩
    · rw [h1]
      dsimp only
      rw [parsC, if_pos rfl]
    · rw [h1]
      dsimp only
      rw [linesA_count]
      congr 1
      omega
def joinB (s x : ByteArray) : ByteArray := s ++ (⟨#[10]⟩ : ByteArray) ++ x
theorem join_bytes (s x : ByteArray) : bytesOf (joinB s x) = bytesOf s ++ 10 :: bytesOf x := by
  unfold joinB
  rw [bytes_app, bytes_app, List.append_assoc]; rfl
theorem join_good {s x : ByteArray} {h : S23} {ops ops' : List S29} (e : parsP s = goodP h ops) (hx : 10 ∉ bytesOf x) (h1 : lineP true h ops (bytesOf x) = some (true, h, ops')) : parsP (joinB s x) = goodP h ops' := by
  unfold parsP
  rw [join_bytes]
  exact (more_lines _ _ hx h ops e).1 ops' h1
theorem join_bad {s x : ByteArray} {h : S23} {ops : List S29} (e : parsP s = goodP h ops) (hx : 10 ∉ bytesOf x) (h1 : lineP true h ops (bytesOf x) = none) : parsP (joinB s x) = badP (((bytesOf s).count 10 + 2 : Nat) : Int) := by
  unfold parsP
  rw [join_bytes]
  exact (more_lines _ _ hx h ops e).2 h1
theorem join_op {s : ByteArray} {h : S23} {ops : List S29} (e : parsP s = goodP h ops) (o : S29) (ho : okS o) : parsP (joinB s (strOfNums (lineO o))) = goodP h (ops ++ [plO o]) := by
  have eb : bytesOf (strOfNums (lineO o)) = lineO o := bytesOf_str _ (line_range _ _ _ _ _ _ _)
  exact join_good e (by rw [eb]; exact line_no10 o) (by rw [eb]; exact lineP_op o ho h ops)
theorem look_l0 (s : ByteArray) (hs : s.size < 8796093022208) : ∀ (d i n : Nat) (says begun : Bool), i + d = s.size → n ≤ i → (begun = false → says = false) →
    Ev (fun k => barrowlaw24_look.l0 k s n says begun i) (if begun = true then says else !silI ((bytesOf s).drop i), ((n + ((bytesOf s).drop i).count 10 : Nat) : Int))
  | 0, i, n, says, begun, hd, hn, hb => by
    rw [List.drop_eq_nil_of_le (by rw [G.bytesOf_length]; omega)]
    refine Ev.step (f := fun _ => some (says, (n : Int))) (fun k => ?_) ?_
    · simp only [barrowlaw24_look.l0]
      rw [if_neg (by omega)]
    · cases begun with
      | true => exact Ev.now _
      | false => rw [hb rfl]; exact Ev.now _
  | d + 1, i, n, says, begun, hd, hn, hb => by
    have hi : i < s.size := by omega
    have hwn := w64_nat i (by omega)
    have hwm := w64_nat n (by omega)
    have ih := look_l0 s hs d (i + 1)
    rw [bytesOf_drop s i hi]
    generalize hT : (bytesOf s).drop (i + 1) = T at ih
    generalize hc : bt s i = c
    have key : ∀ (m : Nat) (hm : m ≤ i + 1), (∀ k, barrowlaw24_look.l0 (k + 1) s n says begun i = (if begun = true then barrowlaw24_look.l0 k s m says begun ((i + 1 : Nat) : Int) else (if isB c = true then barrowlaw24_look.l0 k s m says begun ((i + 1 : Nat) : Int) else barrowlaw24_look.l0 k s m (c != 35) true ((i + 1 : Nat) : Int)))) →
        Ev (fun k => barrowlaw24_look.l0 k s n says begun i) (if begun = true then says else !silI (c :: T), ((m + T.count 10 : Nat) : Int)) := by
      intro m hm st
      refine Ev.step st ?_
      cases begun with
      | true => exact Ev.congr (fun k => if_pos rfl) (ih m says true (by omega) hm (fun e => by cases e))
      | false =>
        rw [if_neg (by decide)]
        by_cases hB : isB c = true
        · have := ih m says false (by omega) hm hb
          rw [if_neg (by decide)] at this
          rw [silI, if_pos hB]
          exact Ev.congr (fun k => (if_neg (by decide)).trans (if_pos hB)) this
        · have := ih m (c != 35) true (by omega) hm (fun e => by cases e)
          rw [if_pos rfl] at this
          rw [silI, if_neg hB]
          exact Ev.congr (fun k => (if_neg (by decide)).trans (if_neg hB)) this
    have hbl : isB c = true ↔ (c = 32 ∨ c = 9 ∨ c = 13) := by unfold isB; simp
    have three : ∀ (A B : Option (Bool × Int)), (if begun = true then A else if c = 32 then A else if c = 9 then A else if c = 13 then A else B) = (if begun = true then A else if isB c = true then A else B) := by
      intro A B
      by_cases hg : begun = true
      · rw [if_pos hg, if_pos hg]
      · rw [if_neg hg, if_neg hg]
        by_cases h32 : c = 32
        · rw [if_pos h32, if_pos (hbl.2 (.inl h32))]
        · rw [if_neg h32]
          by_cases h9 : c = 9
          · rw [if_pos h9, if_pos (hbl.2 (.inr (.inl h9)))]
          · rw [if_neg h9]
            by_cases h13 : c = 13
            · rw [if_pos h13, if_pos (hbl.2 (.inr (.inr h13)))]
            · rw [if_neg h13, if_neg (fun e => by rcases hbl.1 e with e | e | e <;> contradiction)]
    by_cases h10 : c = 10
    · have := key (n + 1) (by omega) (fun k => by
        simp only [barrowlaw24_look.l0]
        rw [if_pos (by omega), if_pos (by omega), hc, if_pos h10, hwn, hwm, three])
      rw [h10, List.count_cons_self] at *
      rw [show n + (T.count 10 + 1) = n + 1 + T.count 10 by omega]
      exact this
    · have := key n (by omega) (fun k => by
        simp only [barrowlaw24_look.l0]
        rw [if_pos (by omega), if_pos (by omega), hc, if_neg h10, hwn, three])
      rw [List.count_cons_of_ne h10]
      exact this
theorem look_ev (s : ByteArray) (hs : s.size < 8796093022208) : Ev (fun k => barrowlaw24_look.f k s) (!silI (bytesOf s), ((bytesOf s).count 10 : Nat)) := by
  have := look_l0 s hs s.size 0 0 false false (by omega) (by omega) (fun _ => rfl)
  rw [List.drop_zero, Nat.zero_add] at this
  exact this
end Go.Proofs.YtlmdhpfggobogaaDoor.Pure

namespace Go.Proofs.YtlmdhpfggobogaaDoor.Pure
open Go.Proofs.YtlmdhpfggobogaaDoor.G hiding bytesOf_length
open Go.RowKit Go.Proofs.YtlmdhpfggobogaaDoorW.PrintWords Go.Proofs.YtlmdhpfggobogaaDoorW.PrintLast
set_option linter.unusedVariables false
def FILL : List (List Int) := [[32], [32, 32], [9], [32, 13, 32], [9, 32, 9], [13]]
def ROWSI : List (List Int) := [[10], [13, 10], [10, 10], [32, 10, 35, 32, 115, 116, 111, 114, 101, 32, 49, 32, 49, 10], [10, 32, 32, 35, 34, 10, 9, 10], [10, 35, 10, 35, 10]]
def blankL (g : List Int) : Prop := ∀ c ∈ g, isB c = true
inductive Spr : List Int → List Int → Prop where
  | nil : Spr [] []
  | chr {c : Int} {t u : List Int} (h1 : c ≠ 32) (h2 : c ≠ 10) (h : Spr t u) : Spr (c :: t) (c :: u)
  | gap {f t u : List Int} (hf : f ∈ FILL) (h : Spr t u) : Spr (32 :: t) (f ++ u)
  | row {r f t u : List Int} (hr : r ∈ ROWSI) (hf : f ∈ FILL) (h : Spr t u) : Spr (10 :: t) (r ++ (f ++ u))
inductive Gp : List (List Int) → List Int → Prop where
  | nil : Gp [] []
  | cons {w : List Int} {ws : List (List Int)} {g u : List Int} (hg : g ≠ []) (hb : blankL g) (h : Gp ws u) : Gp (w :: ws) (g ++ (w ++ u))
structure Line (L : List Int) (W : List Int) (ws : List (List Int)) : Prop where
  eqn : L = W ++ sep ws
  okw : okW W
  okws : ∀ x ∈ ws, okW x
  hash : hashL ([] ++ [W]) = false
  no : (32 ∉ W ∧ 10 ∉ W) ∧ ∀ x ∈ ws, 32 ∉ x ∧ 10 ∉ x
end Go.Proofs.YtlmdhpfggobogaaDoor.Pure

namespace Go.Proofs.YtlmdhpfggobogaaDoor.G
open Go.RowKit Go.Proofs.YtlmdhpfggobogaaDoorW.PrintWords Go.Proofs.YtlmdhpfggobogaaDoorW.PrintLast Go.Proofs.YtlmdhpfggobogaaDoorW.PrintMore
set_option linter.unusedVariables false
theorem st26at {ops : Array Oper} {rest : List Oper} {o : Oper} {a : Act} {Q : Exit → Act → World → Prop} {w : World} {g : Nat} {O C : Array Value} {x y : Operand} (hgd : o.guard = none)
  (ho : o.op = .store 26 x y) (hd : o.dst = none) (hx : a.eval x = .pointer (some ⟨g, 0, none⟩)) (hy : a.eval y = .agg C) (hg : w.heap[g]? = some (.cells O 26 (0, 0)))
  (hO : O.size = 7) (hC : C.size = 7) (h1 : C.all (·.oneCell') = true) (h : ∀ w2, w2.heap[g]? = some (.cells C 26 (0, 0)) → (∀ k o, w.heap[k]? = some o → k ≠ g → w2.heap[k]? = some o) → (∀ B w0, Below B w0 w → B ≤ g → Below B w0 w2) → wpList Tryd.prog ops Q rest a w2) :
  wpList Tryd.prog ops Q (o :: rest) a w :=
 wpList_store_rowTo hgd 26 x y ho hd g C hx hy 26 O hg (by rw [hC]; kernel_rfl) (by omega) h1 (h _ (setRow_heap w g O C 26 (0, 0) hg) (fun k o hk hne => (setRow_other w g k C hne).trans hk) (fun B w0 hb hB => below_setRow hb hB C))
end Go.Proofs.YtlmdhpfggobogaaDoor.G
