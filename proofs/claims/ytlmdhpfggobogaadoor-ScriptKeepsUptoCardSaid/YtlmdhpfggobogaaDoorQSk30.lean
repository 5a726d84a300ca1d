import Derived.Test.YtlmdhpfggobogaaDoorQSk27
import Derived.Test.YtlmdhpfggobogaaDoorQSk28
import Derived.Test.YtlmdhpfggobogaaDoorQSk6
import Derived.Test.YtlmdhpfggobogaaDoorQSk26
import Derived.Test.YtlmdhpfggobogaaDoorQSk23
import Derived.Test.YtlmdhpfggobogaaDoorQSk24
import Derived.Deep.RegionHeld3
namespace Go.Proofs.YtlmdhpfggobogaaDoor.Pure
open Go.Proofs.YtlmdhpfggobogaaDoor.G hiding bytesOf_length
open Go.RowKit Go.Proofs.YtlmdhpfggobogaaDoorW.PrintWords Go.Proofs.YtlmdhpfggobogaaDoorW.PrintLast
set_option linter.unusedVariables false
abbrev PT := Int × Int × Int × Int × Int × Int × List S29 × Int × Int
def badP (n : Int) : PT := (0, 0, 0, 0, 0, 0, [], n, 17)
def goodP (h : S23) (ops : List S29) : PT := (h.f0, h.f1, h.f2, h.f3, h.f4, h.f5, ops, 0, 0)
def opOf (r : Int × Int × Int × Int × ByteArray × Int × Int × Bool) : S29 := ⟨r.1, r.2.1, r.2.2.1, r.2.2.2.1, r.2.2.2.2.1, r.2.2.2.2.2.1, r.2.2.2.2.2.2.1⟩
def hdOf (r : Int × Int × Int × Int × Int × Int × Bool) : S23 := ⟨r.1, r.2.1, r.2.2.1, r.2.2.2.1, r.2.2.2.2.1, r.2.2.2.2.2.1⟩
def lineP (b : Bool) (h : S23) (ops : List S29) (l : List Int) : Option (Bool × S23 × List S29) :=
  if silI l = true then some (b, h, ops) else match run false l .gap [] with
    | some (w :: ws) =>
      if b = true then (if (stepP (strOfNums w) (ws.map strOfNums)).2.2.2.2.2.2.2 = true then some (true, h, ops ++ [opOf (stepP (strOfNums w) (ws.map strOfNums))]) else none)
      else (if (headN (strOfNums w) (ws.map strOfNums)).2.2.2.2.2.2 = true then some (true, hdOf (headN (strOfNums w) (ws.map strOfNums)), ops) else none)
    | _ => none
def parsC : List (List Int) → Nat → Bool → S23 → List S29 → PT
  | [], i, b, h, ops => if b = true then goodP h ops else badP ((i + 1 : Nat) : Int)
  | l :: t, i, b, h, ops => match lineP b h ops l with
    | some r => parsC t (i + 1) r.1 r.2.1 r.2.2
    | none => badP ((i + 1 : Nat) : Int)
def linesT : List Int → List Int → List (List Int)
  | cur, [] => if cur = [] then [] else [cur]
  | cur, c :: t => if c = 10 then cur :: linesT [] t else linesT (cur ++ [c]) t
def trimL (ls : List (List Int)) : List (List Int) := if ls.getLast? = some [] then ls.dropLast else ls
theorem linesA_ne : ∀ (l cur : List Int), linesA cur l ≠ []
  | [], cur => by simp [linesA]
  | c :: t, cur => by
    unfold linesA
    split
    · simp
    · exact linesA_ne t _
theorem trim_lines : ∀ (l cur : List Int), trimL (linesA cur l) = linesT cur l
  | [], cur => by
    unfold linesA linesT trimL
    by_cases h : cur = []
    · rw [if_pos h, h]; rfl
    · rw [if_neg h, if_neg (by simpa using h)]
  | c :: t, cur => by
    unfold linesA linesT
    by_cases h : c = 10
    · rw [if_pos h, if_pos h, ← trim_lines t []]
      have hne := linesA_ne t []
      unfold trimL
      rw [List.getLast?_cons_of_ne_nil hne, List.dropLast_cons_of_ne_nil hne]
      split <;> rfl
    · rw [if_neg h, if_neg h]
      exact trim_lines t _
theorem readH_N (i : Nat) : ∀ (xs : List ByteArray) (h : S23), (∀ y ∈ xs, y.size ≤ 8796093022208) → readH i xs h = some (readN i xs h)
  | [], h, _ => rfl
  | x :: xs, h, hx => by
    have h1 := hx x (by simp)
    have hn : script_readNumber.f x = some (rdNum x) := by unfold script_readNumber.f; rw [if_pos (by omega)]
    unfold readH readN numR
    rw [hn, Option.bind_some]
    by_cases hr : (rdNum x).2 = true
    · rw [if_pos hr, if_pos hr]
      exact readH_N (i + 1) xs _ (fun y hy => hx y (by simp [hy]))
    · rw [if_neg hr, if_neg hr]
theorem head_P (x : ByteArray) (xs : List ByteArray) (hl : xs.length < 4611686018427387903) (hx : ∀ y ∈ xs, y.size ≤ 8796093022208) : script_head.f (x :: xs) = some (headN x xs) := by
  show headC x xs = _
  unfold headC headN
  rw [if_pos (by rw [List.length_cons]; omega), readH_N 0 xs zeroH hx]
  by_cases h1 : (x.toList == storeB.toList) = true
  · rw [if_pos h1, if_pos h1]
    split <;> rfl
  · rw [if_neg h1, if_neg h1, ite_self]
theorem parse_l0 (Ls : List ByteArray) (hLs : Ls.length < 1099511627776) (hsz : ∀ s ∈ Ls, s.size < 8796093022208) : ∀ (d i : Nat) (b : Bool) (h : S23) (ops : List S29), i + d = Ls.length → ops.length ≤ i →
    Ev (fun k => script_Parse.l0 k b Ls Ls (Ls.length : Int) i h.f0 h.f1 h.f2 h.f3 h.f4 h.f5 ops) (parsC ((Ls.drop i).map bytesOf) i b h ops)
  | 0, i, b, h, ops, hd, ho => by
    rw [List.drop_eq_nil_of_le (by omega)]
    refine Ev.step (f := fun _ => some (if b = true then goodP h ops else badP ((i + 1 : Nat) : Int))) (fun k => ?_) (Ev.now _)
    simp only [script_Parse.l0]
    rw [if_neg (by omega), show (Ls.length : Int) = (i : Int) by omega, w64_nat i (by omega)]
    split <;> rfl
  | d + 1, i, b, h, ops, hd, ho => by
    have hi : i < Ls.length := by omega
    have hrd : rdOf ByteArray.empty Ls (i : Int) = Ls[i] := by
      unfold rdOf
      rw [Int.toNat_natCast, List.getD_eq_getElem?_getD, List.getElem?_eq_getElem hi]; rfl
    have hs := hsz Ls[i] (List.getElem_mem hi)
    rw [List.drop_eq_getElem_cons hi, List.map_cons]
    generalize Ls[i] = s at hrd hs
    have hwn := w64_nat i (by omega)
    have next : ∀ (b' : Bool) (h' : S23) (ops' : List S29), ops'.length ≤ i + 1 → Ev (fun k => script_Parse.l0 k b' Ls Ls (Ls.length : Int) ((i + 1 : Nat) : Int) h'.f0 h'.f1 h'.f2 h'.f3 h'.f4 h'.f5 ops') (parsC ((Ls.drop (i + 1)).map bytesOf) (i + 1) b' h' ops') :=
      fun b' h' ops' ho' => parse_l0 Ls hLs hsz d (i + 1) b' h' ops' (by omega) ho'
    obtain ⟨L, hL⟩ := words_said s hs
    have st : ∀ k, script_Parse.l0 (k + 1) b Ls Ls (Ls.length : Int) i h.f0 h.f1 h.f2 h.f3 h.f4 h.f5 ops = (script_words.f k s).bind fun bt111 => (if bt111.2 = true then (script_Parse.j2 k b Ls i bt111.1 bt111.2 Ls (Ls.length : Int) i ((bt111.1.length : Int) == 0) h.f0 h.f1 h.f2 h.f3 h.f4 h.f5 ops) else (script_Parse.j2 k b Ls i bt111.1 bt111.2 Ls (Ls.length : Int) i false h.f0 h.f1 h.f2 h.f3 h.f4 h.f5 ops)) := by
      intro k
      simp only [script_Parse.l0]
      rw [if_pos (by omega), if_pos (by omega), if_pos (by omega), hrd]
    refine Ev.step st ?_
    refine Ev.bind hL ?_
    unfold parsC lineP
    by_cases hsil : silI (bytesOf s) = true
    · rw [if_pos hsil, run_silent _ hsil]
      refine Ev.congr (f := fun k => script_Parse.j2 k b Ls i [] true Ls (Ls.length : Int) i true h.f0 h.f1 h.f2 h.f3 h.f4 h.f5 ops) (fun k => by rw [if_pos rfl]; rfl) ?_
      refine Ev.step (fun k => ?_) (next b h ops (by omega))
      simp only [script_Parse.j2]
      rw [if_pos trivial, hwn]
    · rw [if_neg hsil]
      obtain ⟨e1, e2⟩ := run_loud (bytesOf s) (by simpa using hsil)
      rw [e1]
      have bad : ∀ (M : List ByteArray), Ev (fun k => script_Parse.j3 k b Ls i M false Ls (Ls.length : Int) i false h.f0 h.f1 h.f2 h.f3 h.f4 h.f5 ops) (badP ((i + 1 : Nat) : Int)) := by
        intro M
        refine Ev.step (f := fun _ => some (badP ((i + 1 : Nat) : Int))) (fun k => ?_) (Ev.now _)
        simp only [script_Parse.j3]
        rw [if_neg (by decide), if_neg (by decide), hwn]
        rfl
      cases hrun : run false (bytesOf s) .gap [] with
      | none =>
        refine Ev.congr (f := fun k => script_Parse.j2 k b Ls i L false Ls (Ls.length : Int) i false h.f0 h.f1 h.f2 h.f3 h.f4 h.f5 ops) (fun k => by rw [if_neg Bool.false_ne_true]) ?_
        refine Ev.step (fun k => ?_) (bad L)
        simp only [script_Parse.j2]
        rw [if_neg (by decide), if_neg (by decide)]
      | some r =>
        cases r with
        | nil => exact absurd rfl (e2 [] hrun)
        | cons w ws =>
          obtain ⟨b1, b2⟩ := words_small s hs hrun
          refine Ev.congr (f := fun k => script_Parse.j2 k b Ls i (strOfNums w :: ws.map strOfNums) true Ls (Ls.length : Int) i false h.f0 h.f1 h.f2 h.f3 h.f4 h.f5 ops) (fun k => ?_) ?_
          · show (if true = true then _ else _) = _
            rw [if_pos rfl]
            show script_Parse.j2 k b Ls i (strOfNums w :: ws.map strOfNums) true Ls (Ls.length : Int) i (((strOfNums w :: ws.map strOfNums).length : Int) == 0) _ _ _ _ _ _ _ = _
            rw [show (((strOfNums w :: ws.map strOfNums).length : Int) == 0) = false from by rw [beq_eq_false_iff_ne, List.length_cons]; omega]
          · refine Ev.step (f := fun k => script_Parse.j3 k b Ls i (strOfNums w :: ws.map strOfNums) true Ls (Ls.length : Int) i (!b) h.f0 h.f1 h.f2 h.f3 h.f4 h.f5 ops) (fun k => by simp only [script_Parse.j2]; rw [if_neg (by decide), if_pos trivial]) ?_
            cases b with
            | false =>
              dsimp only
              rw [if_neg (by decide)]
              have hh := head_P (strOfNums w) (ws.map strOfNums) b1 b2
              have st3 : ∀ k, script_Parse.j3 (k + 1) false Ls i (strOfNums w :: ws.map strOfNums) true Ls (Ls.length : Int) i (!false) h.f0 h.f1 h.f2 h.f3 h.f4 h.f5 ops = (if (headN (strOfNums w) (ws.map strOfNums)).2.2.2.2.2.2 = true then script_Parse.l0 k true Ls Ls (Ls.length : Int) ((i + 1 : Nat) : Int) (headN (strOfNums w) (ws.map strOfNums)).1 (headN (strOfNums w) (ws.map strOfNums)).2.1 (headN (strOfNums w) (ws.map strOfNums)).2.2.1 (headN (strOfNums w) (ws.map strOfNums)).2.2.2.1 (headN (strOfNums w) (ws.map strOfNums)).2.2.2.2.1 (headN (strOfNums w) (ws.map strOfNums)).2.2.2.2.2.1 ops else some (badP ((i + 1 : Nat) : Int))) := by
                intro k
                simp only [script_Parse.j3]
                rw [if_pos (by decide), hh, Option.bind_some, hwn]
                rfl
              refine Ev.step st3 ?_
              generalize headN (strOfNums w) (ws.map strOfNums) = r
              by_cases hr : r.2.2.2.2.2.2 = true
              · rw [if_pos hr]
                exact Ev.congr (fun k => if_pos hr) (next true (hdOf r) ops (by omega))
              · rw [if_neg hr]
                exact Ev.congr (fun k => if_neg hr) (Ev.now _)
            | true =>
              dsimp only
              rw [if_pos rfl]
              have hst := step_P (strOfNums w) (ws.map strOfNums) b1 b2
              have st3 : ∀ k, script_Parse.j3 (k + 1) true Ls i (strOfNums w :: ws.map strOfNums) true Ls (Ls.length : Int) i (!true) h.f0 h.f1 h.f2 h.f3 h.f4 h.f5 ops = (script_step.f k (strOfNums w :: ws.map strOfNums)).bind fun bt123 => (if bt123.2.2.2.2.2.2.2 = true then script_Parse.l0 k true Ls Ls (Ls.length : Int) ((i + 1 : Nat) : Int) h.f0 h.f1 h.f2 h.f3 h.f4 h.f5 (ops ++ [opOf bt123]) else some (badP ((i + 1 : Nat) : Int))) := by
                intro k
                simp only [script_Parse.j3]
                rw [if_neg (by decide), if_pos trivial, hwn]
                congr 1
                funext bt123
                rw [if_pos (by omega)]
                rfl
              refine Ev.step st3 (Ev.bind hst ?_)
              generalize stepP (strOfNums w) (ws.map strOfNums) = r
              by_cases hr : r.2.2.2.2.2.2.2 = true
              · rw [if_pos hr]
                exact Ev.congr (fun k => if_pos hr) (next true h (ops ++ [opOf r]) (by rw [List.length_append, List.length_singleton]; omega))
              · rw [if_neg hr]
                exact Ev.congr (fun k => if_neg hr) (Ev.now _)
def parsP (s : ByteArray) : PT := parsC (linesT [] (bytesOf s)) 0 false zeroH []
theorem linesA_size (B : Nat) : ∀ (l cur : List Int), cur.length + l.length ≤ B → ∀ u ∈ linesA cur l, u.length ≤ B
  | [], cur, h, u, hu => by simp [linesA] at hu; subst hu; simpa using h
  | c :: t, cur, h, u, hu => by
    unfold linesA at hu
    rw [List.length_cons] at h
    split at hu
    · rcases List.mem_cons.1 hu with e | e
      · subst e; omega
      · exact linesA_size B t [] (by simp; omega) u e
    · exact linesA_size B t _ (by simp; omega) u hu
theorem linesA_len : ∀ (l cur : List Int), (linesA cur l).length ≤ l.length + 1
  | [], cur => by simp [linesA]
  | c :: t, cur => by
    unfold linesA
    split
    · have := linesA_len t []; simp; omega
    · have := linesA_len t (cur ++ [c]); simp; omega
theorem parse_P (s : ByteArray) (hs : s.size ≤ 1000000000) : Ev (fun k => script_Parse.f k s) (parsP s) := by
  unfold script_Parse.f
  obtain ⟨Ls, hLs⟩ : ∃ Ls, Lib.splitB nl 0 (Lib.countB s nl) s = Ls := ⟨_, rfl⟩
  have hsp : strings_Split.f s (⟨#[10]⟩ : ByteArray) = some Ls := by
    unfold strings_Split.f
    rw [if_pos ⟨by omega, by decide⟩]
    exact congrArg some hLs
  have hmap : Ls.map bytesOf = linesA [] (bytesOf s) := by rw [← hLs]; exact split_lines _ s (Nat.le_refl _)
  have hne : Ls ≠ [] := by
    intro e
    rw [e] at hmap
    exact linesA_ne _ _ hmap.symm
  have hlen : Ls.length ≤ s.size + 1 := by
    have := congrArg List.length hmap
    rw [List.length_map] at this
    have h2 := linesA_len (bytesOf s) []
    rw [G.bytesOf_length] at h2
    omega
  have hszs : ∀ u ∈ Ls, u.size < 8796093022208 := by
    intro u hu
    have h1 := linesA_size s.size (bytesOf s) [] (by rw [G.bytesOf_length]; simp) (bytesOf u) (by rw [← hmap]; exact List.mem_map.2 ⟨u, hu, rfl⟩)
    rw [G.bytesOf_length] at h1
    omega
  have hpos : 0 < Ls.length := List.length_pos_iff.2 hne
  have hw : wrap64 ((Ls.length : Int) - 1) = ((Ls.length - 1 : Nat) : Int) := by rw [w64 (by omega) (by omega)]; omega
  have hlast : rdOf ByteArray.empty Ls ((Ls.length - 1 : Nat) : Int) = Ls.getLast hne := by
    unfold rdOf
    rw [Int.toNat_natCast, List.getD_eq_getElem?_getD, List.getElem?_eq_getElem (by omega), List.getLast_eq_getElem]; rfl
  have htrim := trim_lines (bytesOf s) []
  rw [← hmap] at htrim
  have hgl : (Ls.map bytesOf).getLast? = some (bytesOf (Ls.getLast hne)) := by
    rw [List.getLast?_map, List.getLast?_eq_some_getLast hne]; rfl
  have go : ∀ Ms : List ByteArray, Ms.length ≤ Ls.length → (∀ u ∈ Ms, u ∈ Ls) → Ms.map bytesOf = linesT [] (bytesOf s) → Ev (fun k => script_Parse.j0 k false Ms 0 0 0 0 0 0) (parsP s) := by
    intro Ms h1 h2 h3
    have := parse_l0 Ms (by omega) (fun u hu => hszs u (h2 u hu)) Ms.length 0 false zeroH [] (by omega) (by simp)
    rw [List.drop_zero, h3] at this
    refine Ev.step (fun k => ?_) this
    simp only [script_Parse.j0]
    rfl
  have pre : ∀ k, ((strings_Split.f s (⟨#[10]⟩ : ByteArray)).bind fun t103 => (if 0 ≤ (wrap64 ((t103.length : Int) - 1)) then (if (wrap64 ((t103.length : Int) - 1)) < (t103.length : Int) then (if (rdOf ByteArray.empty t103 (wrap64 ((t103.length : Int) - 1))).toList = ([] : List UInt8) then (if (wrap64 ((t103.length : Int) - 1)) ≤ (t103.length : Int) then (script_Parse.j0 k false (t103.take ((wrap64 ((t103.length : Int) - 1)) : Int).toNat) 0 0 0 0 0 0) else (none)) else (script_Parse.j0 k false t103 0 0 0 0 0 0)) else (none)) else (none))) = (if (Ls.getLast hne).toList = ([] : List UInt8) then (script_Parse.j0 k false (Ls.take (Ls.length - 1)) 0 0 0 0 0 0) else (script_Parse.j0 k false Ls 0 0 0 0 0 0)) := by
    intro k
    rw [hsp, Option.bind_some, hw, if_pos (by omega), if_pos (by omega), hlast, if_pos (show ((Ls.length - 1 : Nat) : Int) ≤ (Ls.length : Int) by omega), Int.toNat_natCast]
  refine Ev.congr pre ?_
  have hemp : (Ls.getLast hne).toList = ([] : List UInt8) ↔ bytesOf (Ls.getLast hne) = [] := by
    rw [ByteArray.toList_eq]
    unfold bytesOf
    rw [List.map_eq_nil_iff]
  by_cases he : (Ls.getLast hne).toList = ([] : List UInt8)
  · refine Ev.congr (fun k => if_pos he) ?_
    have hb := hemp.1 he
    unfold trimL at htrim
    rw [hgl, hb, if_pos rfl] at htrim
    refine go _ (by rw [List.length_take]; omega) (fun u hu => List.mem_of_mem_take hu) ?_
    rw [← htrim, List.dropLast_eq_take, List.length_map, List.map_take]
  · refine Ev.congr (fun k => if_neg he) ?_
    unfold trimL at htrim
    rw [hgl, if_neg (fun e => he (hemp.2 (Option.some.inj e)))] at htrim
    exact go Ls (Nat.le_refl _) (fun u hu => hu) htrim
end Go.Proofs.YtlmdhpfggobogaaDoor.Pure

namespace Go.Proofs.YtlmdhpfggobogaaDoor.Pure
open Go.Proofs.YtlmdhpfggobogaaDoor.G hiding bytesOf_length
open Go.RowKit Go.Proofs.YtlmdhpfggobogaaDoorW.PrintWords Go.Proofs.YtlmdhpfggobogaaDoorW.PrintLast
set_option linter.unusedVariables false
end Go.Proofs.YtlmdhpfggobogaaDoor.Pure

namespace Go.Proofs.YtlmdhpfggobogaaDoor.Pure
open Go.Proofs.YtlmdhpfggobogaaDoor.G hiding bytesOf_length
open Go.RowKit Go.Proofs.YtlmdhpfggobogaaDoorW.PrintWords Go.Proofs.YtlmdhpfggobogaaDoorW.PrintLast
set_option linter.unusedVariables false
theorem Ev.one {α : Type} {g : Nat → Option α} {a b : α} (h1 : Ev g a) (h2 : Ev g b) : a = b := by
  obtain ⟨K1, h1⟩ := h1
  obtain ⟨K2, h2⟩ := h2
  have e1 := h1 (max K1 K2) (Nat.le_max_left _ _)
  have e2 := h2 (max K1 K2) (Nat.le_max_right _ _)
  rw [e1] at e2
  exact Option.some.inj e2
theorem linesT_app : ∀ (L cur t : List Int), 10 ∉ L → linesT cur (L ++ 10 :: t) = (cur ++ L) :: linesT [] t
  | [], cur, t, _ => by
    show linesT cur (10 :: t) = _
    rw [linesT, if_pos rfl, List.append_nil]
  | c :: L, cur, t, h => by
    have hc : ¬ c = 10 := fun e => h (by rw [e]; simp)
    show linesT cur (c :: (L ++ 10 :: t)) = _
    rw [linesT, if_neg hc, linesT_app L (cur ++ [c]) t (fun hm => h (by simp [hm]))]
    simp
theorem line_no10 (o : S29) : 10 ∉ lineO o := fun h => by
  have := line_C _ _ _ _ _ _ _ 10 h
  omega
theorem line_loud (o : S29) : ¬ silI (lineO o) = true := fun h => by
  have h1 := run_silent _ h
  have h2 := line_run o.f0 o.f1 o.f2 o.f3 o.f4 o.f5 o.f6 true
  have h3 : run true (lineO o) .gap [] = some (bytesOf (shp o.f0).1 :: (bytesOf (shp o.f0).2).map (wordI o.f0 o.f1 o.f2 o.f3 o.f4 o.f5 o.f6)) := h2
  rw [h3] at h1
  exact absurd (Option.some.inj h1) (by simp)
theorem stepP_line (o : S29) (ho : okS o) : stepP (strOfNums (bytesOf (shp o.f0).1)) (((bytesOf (shp o.f0).2).map (wordI o.f0 o.f1 o.f2 o.f3 o.f4 o.f5 o.f6)).map strOfNums) = tupB (plO o) true := by
  have h1 := step_line o ho
  have hs := line_size o ho
  have e : bytesOf (strOfNums (lineO o)) = lineO o := bytesOf_str _ (line_range _ _ _ _ _ _ _)
  have h3 : run false (bytesOf (strOfNums (lineO o))) .gap [] = some (bytesOf (shp o.f0).1 :: (bytesOf (shp o.f0).2).map (wordI o.f0 o.f1 o.f2 o.f3 o.f4 o.f5 o.f6)) := by
    rw [e]; exact line_run o.f0 o.f1 o.f2 o.f3 o.f4 o.f5 o.f6 false
  obtain ⟨b1, b2⟩ := words_small (strOfNums (lineO o)) (by omega) h3
  exact Ev.one (step_P _ _ b1 b2) h1
theorem lineP_op (o : S29) (ho : okS o) (h : S23) (ops : List S29) : lineP true h ops (lineO o) = some (true, h, ops ++ [plO o]) := by
  have h2 : run false (lineO o) .gap [] = some (bytesOf (shp o.f0).1 :: (bytesOf (shp o.f0).2).map (wordI o.f0 o.f1 o.f2 o.f3 o.f4 o.f5 o.f6)) := line_run o.f0 o.f1 o.f2 o.f3 o.f4 o.f5 o.f6 false
  unfold lineP
  rw [if_neg (line_loud o), h2]
  dsimp only
  rw [if_pos rfl, stepP_line o ho]
  rfl
theorem parsC_ops_line (h : S23) : ∀ (l : List S29) (i : Nat) (ops : List S29), (∀ o ∈ l, okS o) → parsC (l.map lineO) i true h ops = goodP h (ops ++ l.map plO)
  | [], i, ops, _ => by
    show parsC [] i true h ops = _
    rw [parsC, if_pos rfl]; simp
  | o :: l, i, ops, ho => by
    show parsC (lineO o :: l.map lineO) i true h ops = _
    rw [parsC, lineP_op o (ho o (by simp))]
    dsimp only
    rw [parsC_ops_line h l (i + 1) _ (fun x hx => ho x (by simp [hx]))]
    simp
def headI (h : S23) : List Int := storeI ++ numsI (headNums h.f0 h.f1 h.f2 h.f3 h.f4 h.f5)
def okH (h : S23) : Prop := ∀ n ∈ headNums h.f0 h.f1 h.f2 h.f3 h.f4 h.f5, inI n
theorem nums_sep (l : List Int) : numsI l = sep (l.map numI) := by
  unfold numsI sep
  rw [List.flatMap_map]
theorem head_no10 (h : S23) : 10 ∉ headI h := by
  intro hm
  rcases List.mem_append.1 hm with hm | hm
  · simp [storeI] at hm
  · obtain ⟨n, _, hm⟩ := List.mem_flatMap.1 hm
    rcases List.mem_cons.1 hm with e | e
    · omega
    · have := (numI_chars n).2 10 e
      omega
theorem okW_store : okW storeI := .inl ⟨by simp [storeI], by decide, by decide⟩
theorem head_run (hs : Bool) (h : S23) : run hs (headI h) .gap [] = some (storeI :: (headNums h.f0 h.f1 h.f2 h.f3 h.f4 h.f5).map numI) := by
  unfold headI
  rw [nums_sep]
  have := run_line hs ((headNums h.f0 h.f1 h.f2 h.f3 h.f4 h.f5).map numI) storeI [] (by decide) okW_store (fun w hw => by
    obtain ⟨n, _, rfl⟩ := List.mem_map.1 hw
    exact okW_num n)
  rw [this]; rfl
theorem head_loud (h : S23) : ¬ silI (headI h) = true := fun hh => by
  have h1 := run_silent _ hh
  rw [head_run] at h1
  exact absurd (Option.some.inj h1) (by simp)
theorem numR_num (v : Int) (h : inI v) : numR (strOfNums (numI v)) = some v := numR_some _ v h (by rw [itoa_word, itoa_bytes])
theorem store_str : strOfNums storeI = storeB := by decide +kernel
theorem headN_line (h : S23) (hk : okH h) : headN (strOfNums storeI) (((headNums h.f0 h.f1 h.f2 h.f3 h.f4 h.f5).map numI).map strOfNums) = outH (some h) := by
  unfold headN
  rw [if_pos (by simp [headNums]), store_str, if_pos (by simp)]
  have k0 := numR_num h.f0 (hk _ (by simp [headNums]))
  have k1 := numR_num h.f1 (hk _ (by simp [headNums]))
  have k2 := numR_num h.f2 (hk _ (by simp [headNums]))
  have k3 := numR_num h.f3 (hk _ (by simp [headNums]))
  have k4 := numR_num h.f4 (hk _ (by simp [headNums]))
  have k5 := numR_num h.f5 (hk _ (by simp [headNums]))
  simp only [headNums, List.map_cons, List.map_nil, readN, k0, k1, k2, k3, k4, k5]
  rfl
theorem lineP_head (h : S23) (hk : okH h) (h0 : S23) (ops : List S29) : lineP false h0 ops (headI h) = some (true, h, ops) := by
  unfold lineP
  rw [if_neg (head_loud h), head_run]
  dsimp only
  rw [if_neg (by decide), headN_line h hk]
  rfl
theorem lines_ops : ∀ l : List S29, linesT [] (l.flatMap opI) = l.map lineO
  | [] => rfl
  | o :: l => by
    have e : (o :: l).flatMap opI = lineO o ++ 10 :: l.flatMap opI := by
      rw [List.flatMap_cons]; unfold opI lineO; simp
    rw [e, linesT_app _ _ _ (line_no10 o), lines_ops l]; rfl
theorem lines_print (h : S23) (l : List S29) : linesT [] (printI h.f0 h.f1 h.f2 h.f3 h.f4 h.f5 l) = headI h :: l.map lineO := by
  have e : printI h.f0 h.f1 h.f2 h.f3 h.f4 h.f5 l = headI h ++ 10 :: l.flatMap opI := by unfold printI headI; simp
  rw [e, linesT_app _ _ _ (head_no10 h), lines_ops]; rfl
theorem print_range (a0 a1 a2 a3 a4 a5 : Int) (l : List S29) : ∀ x ∈ printI a0 a1 a2 a3 a4 a5 l, 0 ≤ x ∧ x ≤ 255 := by
  intro x hx
  unfold printI at hx
  rcases List.mem_append.1 hx with hx | hx
  · rcases List.mem_append.1 hx with hx | hx
    · rcases List.mem_append.1 hx with hx | hx
      · simp [storeI] at hx; omega
      · obtain ⟨n, _, hm⟩ := List.mem_flatMap.1 hx
        rcases List.mem_cons.1 hm with e | e
        · omega
        · have := (numI_chars n).2 x e
          omega
    · simp at hx; omega
  · obtain ⟨o, _, hm⟩ := List.mem_flatMap.1 hx
    unfold opI at hm
    rcases List.mem_append.1 hm with e | e
    · exact line_range _ _ _ _ _ _ _ x e
    · simp at e; omega
theorem parsP_print (h : S23) (l : List S29) (hk : okP h.f0 h.f1 h.f2 h.f3 h.f4 h.f5 l) : parsP (strOfNums (printI h.f0 h.f1 h.f2 h.f3 h.f4 h.f5 l)) = goodP h (l.map plO) := by
  unfold parsP
  rw [bytesOf_str _ (print_range _ _ _ _ _ _ _), lines_print, parsC, lineP_head h hk.1]
  dsimp only
  rw [parsC_ops_line h l 1 [] hk.2.2]; rfl
theorem lineO_len (o : S29) (ho : okS o) : (lineO o).length ≤ 16 * o.f4.size + 300 := by
  have piece : ∀ c, (pieceI o.f0 o.f1 o.f2 o.f3 o.f4 o.f5 o.f6 c).length ≤ 4 * o.f4.size + 30 := by
    intro c
    unfold pieceI
    have h1 := numI_len _ (fldV_in ho c)
    have h2 := skuI_len (bytesOf o.f4)
    rw [G.bytesOf_length] at h2
    rw [List.length_cons]
    split <;> omega
  have key : ∀ l : List Int, (l.flatMap (pieceI o.f0 o.f1 o.f2 o.f3 o.f4 o.f5 o.f6)).length ≤ (4 * o.f4.size + 30) * l.length := by
    intro l
    induction l with
    | nil => simp
    | cons c t ih => rw [List.flatMap_cons, List.length_append, List.length_cons, Nat.mul_succ]; have := piece c; omega
  obtain ⟨_, _, _, h4, h5⟩ := shapes o.f0
  have h6 := key (bytesOf (shp o.f0).2)
  rw [G.bytesOf_length] at h6
  have h7 : (4 * o.f4.size + 30) * (shp o.f0).2.size ≤ (4 * o.f4.size + 30) * 4 := Nat.mul_le_mul_left _ h5
  unfold lineO lineI
  rw [List.length_append, G.bytesOf_length]
  omega
end Go.Proofs.YtlmdhpfggobogaaDoor.Pure

namespace Go.Proofs.YtlmdhpfggobogaaDoor.Pure
open Go.Proofs.YtlmdhpfggobogaaDoor.G hiding bytesOf_length
open Go.RowKit Go.Proofs.YtlmdhpfggobogaaDoorW.PrintWords Go.Proofs.YtlmdhpfggobogaaDoorW.PrintLast
set_option linter.unusedVariables false
end Go.Proofs.YtlmdhpfggobogaaDoor.Pure

namespace Go.Proofs.YtlmdhpfggobogaaDoor.Pure
open Go.Proofs.YtlmdhpfggobogaaDoor.G hiding bytesOf_length
open Go.RowKit Go.Proofs.YtlmdhpfggobogaaDoorW.PrintWords Go.Proofs.YtlmdhpfggobogaaDoorW.PrintLast
set_option linter.unusedVariables false
def FILL : List (List Int) := [[32], [32, 32], [9], [32, 13, 32], [9, 32, 9], [13]]
def ROWSI : List (List Int) := [[10], [13, 10], [10, 10], [32, 10, 35, 32, 115, 116, 111, 114, 101, 32, 49, 32, 49, 10], [10, 32, 32, 35, 34, 10, 9, 10], [10, 35, 10, 35, 10]]
def blankL (g : List Int) : Prop := ∀ c ∈ g, isB c = true
inductive Spr : List Int → List Int → Prop where
  | nil : Spr [] []
  | chr {c : Int} {t u : List Int} (h1 : c ≠ 32) (h2 : c ≠ 10) (h : Spr t u) : Spr (c :: t) (c :: u)
  | gap {f t u : List Int} (hf : f ∈ FILL) (h : Spr t u) : Spr (32 :: t) (f ++ u)
  | row {r f t u : List Int} (hr : r ∈ ROWSI) (hf : f ∈ FILL) (h : Spr t u) : Spr (10 :: t) (r ++ (f ++ u))
inductive Gp : List (List Int) → List Int → Prop where
  | nil : Gp [] []
  | cons {w : List Int} {ws : List (List Int)} {g u : List Int} (hg : g ≠ []) (hb : blankL g) (h : Gp ws u) : Gp (w :: ws) (g ++ (w ++ u))
structure Line (L : List Int) (W : List Int) (ws : List (List Int)) : Prop where
  eqn : L = W ++ sep ws
  okw : okW W
  okws : ∀ x ∈ ws, okW x
  hash : hashL ([] ++ [W]) = false
  no : (32 ∉ W ∧ 10 ∉ W) ∧ ∀ x ∈ ws, 32 ∉ x ∧ 10 ∉ x
def wgt8 (l : List S29) : Nat := (l.map fun o => o.f4.size + 8).sum
theorem print_size8 (h : S23) (l : List S29) (hk : okP h.f0 h.f1 h.f2 h.f3 h.f4 h.f5 l) (hw : wgt8 l ≤ 1048576) : (strOfNums (printI h.f0 h.f1 h.f2 h.f3 h.f4 h.f5 l)).size ≤ 39847000 := by
  have key : ∀ l : List S29, (∀ o ∈ l, okS o) → (l.flatMap opI).length ≤ 38 * wgt8 l := by
    intro l
    induction l with
    | nil => intro _; simp [wgt8]
    | cons o t ih =>
      intro ho
      have h1 := lineO_len o (ho o (by simp))
      have h2 := ih (fun x hx => ho x (by simp [hx]))
      have h3 : (opI o).length = (lineO o).length + 1 := by unfold opI lineO; simp
      have h4 : wgt8 (o :: t) = o.f4.size + 8 + wgt8 t := rfl
      rw [List.flatMap_cons, List.length_append, h3, h4]
      omega
  have h1 := key l hk.2.2
  have h2 := head_len hk 6
  have h5 : (headNums h.f0 h.f1 h.f2 h.f3 h.f4 h.f5).take 6 = headNums h.f0 h.f1 h.f2 h.f3 h.f4 h.f5 := rfl
  rw [h5] at h2
  rw [← G.bytesOf_length, bytesOf_str _ (print_range _ _ _ _ _ _ _)]
  unfold printI
  rw [List.length_append, List.length_append, List.length_singleton]
  omega
end Go.Proofs.YtlmdhpfggobogaaDoor.Pure

namespace Go.Proofs.YtlmdhpfggobogaaDoor.G
open Go.RowKit Go.Proofs.YtlmdhpfggobogaaDoorW.PrintWords Go.Proofs.YtlmdhpfggobogaaDoorW.PrintLast Go.Proofs.YtlmdhpfggobogaaDoorW.PrintMore
set_option linter.unusedVariables false
def RB : Nat → ByteArray
  | 0 => ⟨#[10]⟩ | 1 => ⟨#[13, 10]⟩ | 2 => ⟨#[10, 10]⟩ | 3 => ⟨#[32, 10, 35, 32, 115, 116, 111, 114, 101, 32, 49, 32, 49, 10]⟩ | 4 => ⟨#[10, 32, 32, 35, 34, 10, 9, 10]⟩ | _ => ⟨#[10, 35, 10, 35, 10]⟩
theorem st26at {ops : Array Oper} {rest : List Oper} {o : Oper} {a : Act} {Q : Exit → Act → World → Prop} {w : World} {g : Nat} {O C : Array Value} {x y : Operand} (hgd : o.guard = none)
  (ho : o.op = .store 26 x y) (hd : o.dst = none) (hx : a.eval x = .pointer (some ⟨g, 0, none⟩)) (hy : a.eval y = .agg C) (hg : w.heap[g]? = some (.cells O 26 (0, 0)))
  (hO : O.size = 7) (hC : C.size = 7) (h1 : C.all (·.oneCell') = true) (h : ∀ w2, w2.heap[g]? = some (.cells C 26 (0, 0)) → (∀ k o, w.heap[k]? = some o → k ≠ g → w2.heap[k]? = some o) → (∀ B w0, Below B w0 w → B ≤ g → Below B w0 w2) → wpList Tryd.prog ops Q rest a w2) :
  wpList Tryd.prog ops Q (o :: rest) a w :=
 wpList_store_rowTo hgd 26 x y ho hd g C hx hy 26 O hg (by rw [hC]; kernel_rfl) (by omega) h1 (h _ (setRow_heap w g O C 26 (0, 0) hg) (fun k o hk hne => (setRow_other w g k C hne).trans hk) (fun B w0 hb hB => below_setRow hb hB C))
theorem R_other {w w2 : World} {base g : Nat} {v : Value} {l : List S29} {cs : Array Value} (h : Kd.R k29 29 w base (fun _ => True) v l) (hb : w.heap[g]? = some (.cells cs 26 (0, 0))) (hk : ∀ k o, w.heap[k]? = some o → k ≠ g → w2.heap[k]? = some o) : Kd.R k29 29 w2 base (fun _ => True) v l :=
  Kd.R_mono (Kd.R_step (Kd.R_types h hb (by decide)) (fun k h1 h2 => by
    have e : w.heap[k]? = some w.heap[k] := Array.getElem?_eq_getElem h2
    rw [e, hk k _ e h1.2])) (fun _ _ => trivial)
end Go.Proofs.YtlmdhpfggobogaaDoor.G

namespace Go.Proofs.YtlmdhpfggobogaaDoor.G
open Go.RowKit Go.Proofs.YtlmdhpfggobogaaDoorW.PrintWords Go.Proofs.YtlmdhpfggobogaaDoorW.PrintLast Go.Proofs.YtlmdhpfggobogaaDoorW.PrintMore
attribute [local go_sem] max2_int min2_int max_two min_two max_three min_three max_four min_four
set_option linter.unusedVariables false
set_option linter.unusedSimpArgs false
theorem R_other' {w w2 : World} {base g : Nat} {ok : Nat → Prop} {v : Value} {l : List S29} {cs : Array Value} (h : Kd.R k29 29 w base ok v l) (hb : w.heap[g]? = some (.cells cs 26 (0, 0))) (hk : ∀ k o, w.heap[k]? = some o → k ≠ g → w2.heap[k]? = some o) : Kd.R k29 29 w2 base ok v l :=
  Kd.R_mono (Kd.R_step (Kd.R_types h hb (by decide)) (fun k h1 h2 => by
    have e : w.heap[k]? = some w.heap[k] := Array.getElem?_eq_getElem h2
    rw [e, hk k _ e h1.2])) (fun _ hk => hk.1)
end Go.Proofs.YtlmdhpfggobogaaDoor.G

namespace Go.Proofs.YtlmdhpfggobogaaDoor.Pure
open Go.Proofs.YtlmdhpfggobogaaDoor.G hiding bytesOf_length
open Go.RowKit Go.Proofs.YtlmdhpfggobogaaDoorW.PrintWords Go.Proofs.YtlmdhpfggobogaaDoorW.PrintLast
set_option linter.unusedVariables false
end Go.Proofs.YtlmdhpfggobogaaDoor.Pure

namespace Go.Proofs.YtlmdhpfggobogaaDoor.G
open Go.RowKit Go.Proofs.YtlmdhpfggobogaaDoorW.PrintWords Go.Proofs.YtlmdhpfggobogaaDoorW.PrintLast Go.Proofs.YtlmdhpfggobogaaDoorW.PrintMore
attribute [local go_sem] max2_int min2_int max_two min_two max_three min_three max_four min_four
set_option linter.unusedVariables false
set_option linter.unusedSimpArgs false
def opN (k : Int) : S29 := ⟨k, 0, 0, 0, ⟨#[]⟩, 0, 0⟩
def op15 (i : Nat) : S29 := ⟨15, (i : Int), 0, 0, ⟨#[]⟩, 0, 0⟩
theorem reps_two (w : World) (base : Nat) (okp : Nat → Prop) : Reps (k29.M w base okp) k29.sz [opN (-5), opN (-6)] [.int .i64 (-5), .int .i64 0, .int .i64 0, .int .i64 0, .string ⟨#[]⟩, .int .i64 0, .int .i64 0, .int .i64 (-6), .int .i64 0, .int .i64 0, .int .i64 0, .string ⟨#[]⟩, .int .i64 0, .int .i64 0] :=
  Reps.c7 (show Kd.M k29 _ _ _ (opN (-5)) [_, _, _, _, _, _, _] from k29_mkM _ _ _ _) (Reps.c7 (show Kd.M k29 _ _ _ (opN (-6)) [_, _, _, _, _, _, _] from k29_mkM _ _ _ _) (Reps.none _ _))
theorem C_take {w : World} {A : Option Addr} {l m lO : List S29} (e : l ++ m = lO) (h : Kd.C k29 w A lO.length lO) (hm : m ≠ []) : Kd.C k29 w A l.length l := by
  subst e
  obtain ⟨h1, h2, h3⟩ := h
  have hp : 0 < m.length := List.length_pos_iff.2 hm
  refine ⟨rfl, by rw [List.length_append] at h2; omega, fun _ => ?_⟩
  obtain ⟨ad, e, h4⟩ := h3 (by rw [List.length_append]; omega)
  refine ⟨ad, e, fun j q hj => h4 j q ?_⟩
  rw [List.getElem?_append_left (List.getElem?_eq_some_iff.1 hj).1]
  exact hj
theorem plain15 (i : Nat) : Pure.plO (op15 i) = op15 i := by
  have h : bytesOf (shp 15).2 = [114] := by decide +kernel
  show plainL 15 i 0 0 ⟨#[]⟩ 0 0 (bytesOf (shp 15).2) = op15 i
  rw [h]
  simp [plainL, op15]
theorem map15 (n : Nat) : ((List.range n).map op15).map Pure.plO = (List.range n).map op15 := by
  rw [List.map_map]
  exact List.map_congr_left (fun i _ => plain15 i)
theorem okP15 {a0 a1 a2 a3 a4 a5 : Int} {l : List S29} (h : okP a0 a1 a2 a3 a4 a5 l) : okP a0 a1 a2 a3 a4 a5 ((List.range l.length).map op15) := by
  refine ⟨h.1, by simpa using h.2.1, fun o ho => ?_⟩
  obtain ⟨i, hi, rfl⟩ := List.mem_map.1 ho
  have h1 := List.mem_range.1 hi
  have h2 := h.2.1
  have hz : inI 0 := by constructor <;> decide
  exact ⟨show inI 15 by constructor <;> decide, ⟨by show _ ≤ (i : Int); omega, by show (i : Int) ≤ _; omega⟩, hz, hz, by show (0 : Nat) ≤ _; omega, hz, hz⟩
theorem wgt15 (l : List S29) (h : Pure.wgt8 l ≤ 1048576) : Pure.wgt8 ((List.range l.length).map op15) ≤ 1048576 ∧ 8 * l.length ≤ 1048576 := by
  have h1 : 8 * l.length ≤ Pure.wgt8 l := by
    clear h
    induction l with
    | nil => simp
    | cons o t ih =>
      have : Pure.wgt8 (o :: t) = (o.f4.size + 8) + Pure.wgt8 t := by simp [Pure.wgt8]
      rw [this, List.length_cons]; omega
  have h2 : ∀ n, Pure.wgt8 ((List.range n).map op15) = 8 * n := by
    intro n
    induction n with
    | zero => rfl
    | succ n ih =>
      rw [List.range_succ, List.map_append]
      have : Pure.wgt8 ((List.range n).map op15 ++ List.map op15 [n]) = Pure.wgt8 ((List.range n).map op15) + 8 := by
        simp [Pure.wgt8, op15]; rfl
      rw [this, ih]; omega
  rw [h2]; omega
structure KS (w0 : World) (gs gg g1 g2 g3 : Nat) (vs vg p1 p2 p3 : Array Value) (vO vW v1 v2 v3 : Value) (xO xW x1 x2 x3 : List S29) (w : World) : Prop where
  bs : w.heap[gs]? = some (.cells vs 26 (0, 0))
  bg : w.heap[gg]? = some (.cells vg 26 (0, 0))
  b1 : w.heap[g1]? = some (.cells p1 26 (0, 0))
  b2 : w.heap[g2]? = some (.cells p2 26 (0, 0))
  b3 : w.heap[g3]? = some (.cells p3 26 (0, 0))
  rO : Kd.R k29 29 w w0.heap.size (fun k => some k ≠ vW.ownBlock ∧ some k ≠ v2.ownBlock ∧ some k ≠ v3.ownBlock) vO xO
  rW : Kd.R k29 29 w w0.heap.size (fun _ => True) vW xW
  r1 : Kd.R k29 29 w w0.heap.size (fun k => some k ≠ vO.ownBlock ∧ some k ≠ vW.ownBlock ∧ some k ≠ v2.ownBlock ∧ some k ≠ v3.ownBlock) v1 x1
  r2 : Kd.R k29 29 w w0.heap.size (fun _ => True) v2 x2
  r3 : Kd.R k29 29 w w0.heap.size (fun _ => True) v3 x3
  bw : Below w0.heap.size w0 w
section
variable {w0 : World} {gs gg g1 g2 g3 : Nat} {vs vg p1 p2 p3 : Array Value} {vO vW v1 v2 v3 : Value} {xO xW x1 x2 x3 : List S29} {w w2 : World}
theorem KS.below (h : KS w0 gs gg g1 g2 g3 vs vg p1 p2 p3 vO vW v1 v2 v3 xO xW x1 x2 x3 w) (hb : Below w.heap.size w w2) : KS w0 gs gg g1 g2 g3 vs vg p1 p2 p3 vO vW v1 v2 v3 xO xW x1 x2 x3 w2 :=
  ⟨blk_below h.bs hb, blk_below h.bg hb, blk_below h.b1 hb, blk_below h.b2 hb, blk_below h.b3 hb, Kd.R_below h.rO hb, Kd.R_below h.rW hb, Kd.R_below h.r1 hb, Kd.R_below h.r2 hb, Kd.R_below h.r3 hb, below_step h.bw hb⟩
theorem KS.drew (h : KS w0 gs gg g1 g2 g3 vs vg p1 p2 p3 vO vW v1 v2 v3 xO xW x1 x2 x3 w) : KS w0 gs gg g1 g2 g3 vs vg p1 p2 p3 vO vW v1 v2 v3 xO xW x1 x2 x3 w.drew :=
  h.below (below_drew (Below.refl _ _))
theorem KS.put1 {v1' : Value} {x1' : List S29} (h : KS w0 gs gg g1 g2 g3 vs vg p1 p2 p3 vO vW v1 v2 v3 xO xW x1 x2 x3 w) (hg : w.grownBy w2 v1.ownBlock)
    (hr : Kd.R k29 29 w2 w0.heap.size (fun k => some k ≠ vO.ownBlock ∧ some k ≠ vW.ownBlock ∧ some k ≠ v2.ownBlock ∧ some k ≠ v3.ownBlock) v1' x1') (hb : Below w0.heap.size w0 w2) : KS w0 gs gg g1 g2 g3 vs vg p1 p2 p3 vO vW v1' v2 v3 xO xW x1' x2 x3 w2 :=
  ⟨blk_grown h.bs hg (Kd.R_ne h.r1 h.bs (by decide)), blk_grown h.bg hg (Kd.R_ne h.r1 h.bg (by decide)), blk_grown h.b1 hg (Kd.R_ne h.r1 h.b1 (by decide)), blk_grown h.b2 hg (Kd.R_ne h.r1 h.b2 (by decide)), blk_grown h.b3 hg (Kd.R_ne h.r1 h.b3 (by decide)),
   Kd.R_grown2 h.rO rfl hg (fun k hk => (h.r1.1 k hk).1), Kd.R_grown2 h.rW rfl hg (fun k hk => (h.r1.1 k hk).2.1), hr, Kd.R_grown2 h.r2 rfl hg (fun k hk => (h.r1.1 k hk).2.2.1), Kd.R_grown2 h.r3 rfl hg (fun k hk => (h.r1.1 k hk).2.2.2), hb⟩
theorem KS.putO {xO' : List S29} (h : KS w0 gs gg g1 g2 g3 vs vg p1 p2 p3 vO vW v1 v2 v3 xO xW x1 x2 x3 w) (hg : w.grownBy w2 vO.ownBlock)
    (hr : Kd.R k29 29 w2 w0.heap.size (fun k => some k ≠ vW.ownBlock ∧ some k ≠ v2.ownBlock ∧ some k ≠ v3.ownBlock) vO xO') (hb : Below w0.heap.size w0 w2) : KS w0 gs gg g1 g2 g3 vs vg p1 p2 p3 vO vW v1 v2 v3 xO' xW x1 x2 x3 w2 :=
  ⟨blk_grown h.bs hg (Kd.R_ne h.rO h.bs (by decide)), blk_grown h.bg hg (Kd.R_ne h.rO h.bg (by decide)), blk_grown h.b1 hg (Kd.R_ne h.rO h.b1 (by decide)), blk_grown h.b2 hg (Kd.R_ne h.rO h.b2 (by decide)), blk_grown h.b3 hg (Kd.R_ne h.rO h.b3 (by decide)),
   hr, Kd.R_grown2 h.rW rfl hg (fun k hk => (h.rO.1 k hk).1), Kd.R_grown2 h.r1 rfl hg (fun k hk e => (h.r1.1 k e.symm).1 hk.symm), Kd.R_grown2 h.r2 rfl hg (fun k hk => (h.rO.1 k hk).2.1), Kd.R_grown2 h.r3 rfl hg (fun k hk => (h.rO.1 k hk).2.2), hb⟩
theorem KS.fresh (h : KS w0 gs gg g1 g2 g3 vs vg p1 p2 p3 vO vW v1 v2 v3 xO xW x1 x2 x3 w) : ∀ k, w.heap.size ≤ k → some k ≠ vO.ownBlock ∧ some k ≠ vW.ownBlock ∧ some k ≠ v2.ownBlock ∧ some k ≠ v3.ownBlock :=
  fun k hk => ⟨fun e => absurd (Kd.R_lt h.rO k e.symm) (Nat.not_lt.2 hk), fun e => absurd (Kd.R_lt h.rW k e.symm) (Nat.not_lt.2 hk), fun e => absurd (Kd.R_lt h.r2 k e.symm) (Nat.not_lt.2 hk), fun e => absurd (Kd.R_lt h.r3 k e.symm) (Nat.not_lt.2 hk)⟩
theorem KS.box1 {c0 c1 c2 c3 c4 c5 c6 : Value} (u : Value) (h : KS w0 gs gg g1 g2 g3 vs vg #[c0, c1, c2, c3, c4, c5, c6] p2 p3 vO vW v1 v2 v3 xO xW x1 x2 x3 w) (hge : w0.heap.size ≤ g1) (n1 : gs ≠ g1) (n2 : gg ≠ g1) (n3 : g2 ≠ g1) (n4 : g3 ≠ g1) :
    KS w0 gs gg g1 g2 g3 vs vg #[c0, c1, c2, c3, c4, c5, u] p2 p3 vO vW v1 v2 v3 xO xW x1 x2 x3 (w.setCell ⟨g1, 6, none⟩ u) := by
  have hk : ∀ {base : Nat} {ok : Nat → Prop} {v : Value} {x : List S29}, Kd.R k29 29 w base ok v x → Kd.R k29 29 (w.setCell ⟨g1, 6, none⟩ u) base ok v x := fun h2 => Kd.R_mono (Kd.R_far (p := ⟨g1, 6, none⟩) (Kd.R_types h2 h.b1 (by decide)) (fun _ hk => hk.2) u) (fun _ hk => hk.1)
  exact ⟨blk_far h.bs n1 u, blk_far h.bg n2 u, blk_put (cs := #[c0, c1, c2, c3, c4, c5, c6]) h.b1 6 _ rfl, blk_far h.b2 n3 u, blk_far h.b3 n4 u, hk h.rO, hk h.rW, hk h.r1, hk h.r2, hk h.r3, below_set h.bw hge⟩
theorem KS.far {g : Nat} {cs : Array Value} (h : KS w0 gs gg g1 g2 g3 vs vg p1 p2 p3 vO vW v1 v2 v3 xO xW x1 x2 x3 w) (hb : w.heap[g]? = some (.cells cs 26 (0, 0))) (hk : ∀ k o, w.heap[k]? = some o → k ≠ g → w2.heap[k]? = some o)
    (n0 : gs ≠ g) (n5 : gg ≠ g) (n1 : g1 ≠ g) (n2 : g2 ≠ g) (n3 : g3 ≠ g) (hw : Below w0.heap.size w0 w2) : KS w0 gs gg g1 g2 g3 vs vg p1 p2 p3 vO vW v1 v2 v3 xO xW x1 x2 x3 w2 :=
  ⟨hk _ _ h.bs n0, hk _ _ h.bg n5, hk _ _ h.b1 n1, hk _ _ h.b2 n2, hk _ _ h.b3 n3, R_other' h.rO hb hk, R_other' h.rW hb hk, R_other' h.r1 hb hk, R_other' h.r2 hb hk, R_other' h.r3 hb hk, hw⟩
end
theorem meas_step {n i : Nat} (h : i < n) (hw : wrap64 ((i : Int) + 1) = ((i + 1 : Nat) : Int)) : n - toN (.int .i64 (wrap64 ((i : Int) + 1))) < n - toN (.int .i64 (i : Int)) := by
  rw [hw]; simp only [toN]; (try simp); omega
theorem get15 (m : List S29) {n i : Nat} (h : i < n) : ((List.range n).map op15 ++ m).getD i z29 = op15 i := by
  rw [List.getD_eq_getElem?_getD, List.getElem?_append_left (by simpa using h), List.getElem?_map, List.getElem?_range h]
  rfl
theorem set15 (lO : List S29) (i : Nat) (h : i < lO.length) : ((List.range i).map op15 ++ lO.drop i).set i (op15 i) = (List.range (i + 1)).map op15 ++ lO.drop (i + 1) := by
  rw [List.drop_eq_getElem_cons h, List.set_append_right _ _ (by simp), List.range_succ, List.map_append, List.append_assoc]
  rw [show i - ((List.range i).map op15).length = 0 by simp]
  rfl
set_option maxHeartbeats 16000000 in
set_option maxRecDepth 100000 in
theorem barrowlaw24_ScriptKeeps.calls (a0_0 a0_1 a0_2 a0_3 a0_4 a0_5 : Int) (A0_6 : Option Addr) (c0_6 : Nat) (l0_6 : List S29) (w : World) (hTab : Aside0 (Tab w)) (hTabE : Aside0 (TabE w)) (hTabM : Aside0 (TabM w))
    (hr0 : Kd.C k29 w A0_6 l0_6.length l0_6) (hc0 : l0_6.length ≤ c0_6) (hok : okP a0_0 a0_1 a0_2 a0_3 a0_4 a0_5 l0_6) (hwt : Pure.wgt8 l0_6 ≤ 1048576) :
    Calls Tryd.prog 13 #[.agg #[.int .i64 a0_0, .int .i64 a0_1, .int .i64 a0_2, .int .i64 a0_3, .int .i64 a0_4, .int .i64 a0_5, .slice A0_6 l0_6.length c0_6]] w fun e w' => e = .returned (.bool true) ∧ Below w.heap.size w w' := by
  obtain ⟨kA, hA⟩ := Pure.awake_ev.rounds
  have HA := Aside0.mk hA
  obtain ⟨T, hT⟩ : ∃ T, strOfNums (printI a0_0 a0_1 a0_2 a0_3 a0_4 a0_5 l0_6) = T := ⟨_, rfl⟩
  have HP := Aside0.mk (show script_Print.f a0_0 a0_1 a0_2 a0_3 a0_4 a0_5 l0_6 = some T by rw [← hT]; exact if_pos hok)
  have hTs : T.size ≤ 39847000 := by rw [← hT]; exact Pure.print_size8 ⟨a0_0, a0_1, a0_2, a0_3, a0_4, a0_5⟩ l0_6 hok hwt
  obtain ⟨L, hL⟩ : ∃ L, l0_6.map Pure.plO = L := ⟨_, rfl⟩
  have hLl : L.length = l0_6.length := by rw [← hL, List.length_map]
  obtain ⟨hw15, hl8⟩ := wgt15 l0_6 hwt
  obtain ⟨k1, h1⟩ := (Pure.parse_P T (by omega)).rounds
  have e1 : Pure.parsP T = Pure.goodP ⟨a0_0, a0_1, a0_2, a0_3, a0_4, a0_5⟩ L := by rw [← hT, ← hL]; exact Pure.parsP_print ⟨a0_0, a0_1, a0_2, a0_3, a0_4, a0_5⟩ l0_6 hok
  rw [e1] at h1
  have HPP := Aside0.mk (show script_Parse.f k1 T = some (a0_0, a0_1, a0_2, a0_3, a0_4, a0_5, L, 0, 0) from h1)
  obtain ⟨kN, hN⟩ := (Pure.plain_ev a0_0 a0_1 a0_2 a0_3 a0_4 a0_5 l0_6 (by omega)).rounds
  rw [hL] at hN
  have HN := Aside0.mk hN
  obtain ⟨kE, hE⟩ := (Pure.equal_ev a0_0 a0_1 a0_2 a0_3 a0_4 a0_5 L (by omega)).rounds
  have HE := Aside0.mk hE
  obtain ⟨lO, hlO⟩ : ∃ lO, l0_6 ++ [opN (-5), opN (-6)] = lO := ⟨_, rfl⟩
  have HLO := Aside0.mk hlO
  have hlOl : lO.length = l0_6.length + 2 := by rw [← hlO, List.length_append]; rfl
  have HLP := Aside0.mk (show 0 < lO.length by omega)
  have HLL := Aside0.mk (show lO.length = l0_6.length + 2 ∧ L.length = l0_6.length ∧ l0_6.length ≤ 131072 by omega)
  obtain ⟨L2, hL2⟩ : ∃ L2, (List.range l0_6.length).map op15 = L2 := ⟨_, rfl⟩
  obtain ⟨T2, hT2⟩ : ∃ T2, strOfNums (printI a0_0 a0_1 a0_2 a0_3 a0_4 a0_5 L2) = T2 := ⟨_, rfl⟩
  have hok2 := okP15 hok
  rw [hL2] at hok2 hw15
  have HP2 := Aside0.mk (show script_Print.f a0_0 a0_1 a0_2 a0_3 a0_4 a0_5 L2 = some T2 by rw [← hT2]; exact if_pos hok2)
  have hTs2 : T2.size ≤ 39847000 := by rw [← hT2]; exact Pure.print_size8 ⟨a0_0, a0_1, a0_2, a0_3, a0_4, a0_5⟩ L2 hok2 hw15
  obtain ⟨k2, h2⟩ := (Pure.parse_P T2 (by omega)).rounds
  have e2 : Pure.parsP T2 = Pure.goodP ⟨a0_0, a0_1, a0_2, a0_3, a0_4, a0_5⟩ L2 := by
    rw [← hT2]
    refine (Pure.parsP_print ⟨a0_0, a0_1, a0_2, a0_3, a0_4, a0_5⟩ L2 hok2).trans ?_
    rw [← hL2, map15]
  rw [e2] at h2
  have HPP2 := Aside0.mk (show script_Parse.f k2 T2 = some (a0_0, a0_1, a0_2, a0_3, a0_4, a0_5, L2, 0, 0) from h2)
  have HL2 := Aside0.mk hL2
  have HL1 := Aside0.mk (show (([] : List S29).length + l0_6.length) * 64 ≤ 140737488355328 by rw [List.length_nil]; omega)
  have HL2b := Aside0.mk (show (l0_6.length + ([opN (-5), opN (-6)] : List S29).length) * 64 ≤ 140737488355328 by show (l0_6.length + 2) * 64 ≤ _; omega)
  have HL3 := Aside0.mk (show (([] : List S29).length + lO.length) * 64 ≤ 140737488355328 by rw [List.length_nil]; omega)
  have HR0 := Aside0.mk hr0
  have HC0 := Aside0.mk hc0
  clear hA hT hTs hL hLl hw15 hl8 h1 e1 hN hE hlO hlOl hL2 hT2 hok2 hTs2 h2 e2 hr0 hc0 hok hwt
  have S1 : True := trivial
  have S2 : True := trivial
  have S3 : True := trivial
  have S4 : True := trivial
  have S5 : True := trivial
  have S6 : True := trivial
  have S7 : True := trivial
  have S8 : True := trivial
  go_enter Tryd.func13, Tryd.ntmps13
  go_wp2_with (first | (clear S1; (with_reducible refine gate_dst (N := 1) rfl ?_); refine box_event ?hg (N := 1) ?hd (cs := #[.int .i64 a0_0, .int .i64 a0_1, .int .i64 a0_2, .int .i64 a0_3, .int .i64 a0_4, .int .i64 a0_5, .slice A0_6 l0_6.length c0_6]) (t := 26) ?hr ?_; (case hd => rfl); (case hg => rfl); (case hr => first | (go_simp; done) | (go_simp; rfl)); intro gs hgs w1 hbox hb1; have Bs1 := Aside0.mk hbox; have BW1 := Aside0.mk hb1; have GEs := Aside0.mk (show w.heap.size ≤ gs by rw [hgs]; exact Nat.le_refl _); clear hbox hb1 hgs) | (clear S2; go_at_call 16; refine (barrowlaw24_awake.calls kA true _ (tab_keep hTab BW1.out) (tabE_keep hTabE BW1.out) HA.out).mono ?_; rintro e w2 ⟨rfl, hb2⟩; have Bs2 := Aside0.mk (blk_below Bs1.out hb2); have BW2 := Aside0.mk (below_step BW1.out hb2); have c0 : w2.cell? ⟨gs, 0, none⟩ = some (.int .i64 a0_0) := (by rw [Lib.cell_of_heap Bs2.out]; rfl); have c1 : w2.cell? ⟨gs, 1, none⟩ = some (.int .i64 a0_1) := (by rw [Lib.cell_of_heap Bs2.out]; rfl); have c2 : w2.cell? ⟨gs, 2, none⟩ = some (.int .i64 a0_2) := (by rw [Lib.cell_of_heap Bs2.out]; rfl); have c3 : w2.cell? ⟨gs, 3, none⟩ = some (.int .i64 a0_3) := (by rw [Lib.cell_of_heap Bs2.out]; rfl); have c4 : w2.cell? ⟨gs, 4, none⟩ = some (.int .i64 a0_4) := (by rw [Lib.cell_of_heap Bs2.out]; rfl); have c5 : w2.cell? ⟨gs, 5, none⟩ = some (.int .i64 a0_5) := (by rw [Lib.cell_of_heap Bs2.out]; rfl); have c6 : w2.cell? ⟨gs, 6, none⟩ = some (.slice A0_6 l0_6.length c0_6) := (by rw [Lib.cell_of_heap Bs2.out]; rfl); clear hb2 Bs1 BW1) | (clear S3; (with_reducible refine gate_dst (N := 23) rfl ?_); refine Kd.R_lit k29 (w0 := w2) w2.heap.size 29 ?hg (N := 23) ?hd (xs := ([] : List S29)) (inner := []) (ok := fun _ => True) (okp := fun _ => True) ?hr ?hp (fun _ hk => hk) trivial (Below.refl _ _) (Nat.le_refl _) (by simp) ?_; (case hd => rfl); (case hg => rfl); (case hr => first | (go_simp; done) | (go_simp; rfl)); (case hp => exact (Reps.none _ _)); intro v23 w3 hoo hbb hgg hnn; have Bs3 := Aside0.mk (blk_below Bs2.out hbb); have BX3 := Aside0.mk hbb; have R23 := Aside0.mk hoo; clear c0 c1 c2 c3 c4 c5 c6; have c0 : w3.cell? ⟨gs, 0, none⟩ = some (.int .i64 a0_0) := (by rw [Lib.cell_of_heap Bs3.out]; rfl); have c1 : w3.cell? ⟨gs, 1, none⟩ = some (.int .i64 a0_1) := (by rw [Lib.cell_of_heap Bs3.out]; rfl); have c2 : w3.cell? ⟨gs, 2, none⟩ = some (.int .i64 a0_2) := (by rw [Lib.cell_of_heap Bs3.out]; rfl); have c3 : w3.cell? ⟨gs, 3, none⟩ = some (.int .i64 a0_3) := (by rw [Lib.cell_of_heap Bs3.out]; rfl); have c4 : w3.cell? ⟨gs, 4, none⟩ = some (.int .i64 a0_4) := (by rw [Lib.cell_of_heap Bs3.out]; rfl); have c5 : w3.cell? ⟨gs, 5, none⟩ = some (.int .i64 a0_5) := (by rw [Lib.cell_of_heap Bs3.out]; rfl); have c6 : w3.cell? ⟨gs, 6, none⟩ = some (.slice A0_6 l0_6.length c0_6) := (by rw [Lib.cell_of_heap Bs3.out]; rfl); clear hoo hbb hgg hnn) | (clear S4; (with_reducible refine gate_builtin (b := .append) (xs := #[.tmp 23, .tmp 25]) rfl ?_); at_builtin; refine Kd.R_append_rows k29 (w0 := w2) w2.heap.size rfl (.tmp 23) (.tmp 25) 24 29 (.agg #[(.int .i64 0), (.int .i64 0), (.int .i64 0), (.int .i64 0), (.string ⟨#[]⟩), (.int .i64 0), (.int .i64 0)]) 64 rfl Tryd.underlying24 info29 rfl (by decide) (by omega) v23 [] l0_6 A0_6 l0_6.length c0_6 (fun _ => True) (fun _ => False) rfl rfl ?aO ?aR (fun _ _ h => h) (fun _ h => h.elim) ?aF ?aB ?aS ?aL ?_; (case aO => exact R23.out); (case aR => exact (Kd.C_below (Kd.C_below HR0.out BW2.out) BX3.out)); (case aF => exact fun _ _ => trivial); (case aB => exact BX3.out); (case aS => exact BX3.out.size); (case aL => exact HL1.out); intro v26 w4 hoo hbb hgg hat; have BX4 := Aside0.mk hbb; have R26 := Aside0.mk (show Kd.R k29 29 w4 w2.heap.size (fun _ => True) v26 l0_6 from hoo); clear c0 c1 c2 c3 c4 c5 c6 R23 BX3 Bs3; clear hoo hbb hgg hat) | (clear S5; (with_reducible refine gate_dst (N := 29) rfl ?_); refine Kd.R_lit k29 (w0 := w2) w2.heap.size 29 ?hg (N := 29) ?hd (xs := ([opN (-5), opN (-6)] : List S29)) (inner := [.int .i64 (-5), .int .i64 0, .int .i64 0, .int .i64 0, .string ⟨#[]⟩, .int .i64 0, .int .i64 0, .int .i64 (-6), .int .i64 0, .int .i64 0, .int .i64 0, .string ⟨#[]⟩, .int .i64 0, .int .i64 0]) (ok := fun _ => True) (okp := fun _ => True) ?hr ?hp (fun _ hk => hk) trivial BX4.out BX4.out.size (by simp) ?_; (case hd => rfl); (case hg => rfl); (case hr => first | (go_simp; done) | (go_simp; rfl)); (case hp => exact reps_two _ _ _); intro v29 w5 hoo hbb hgg hnn; have BX5 := Aside0.mk hbb; have R26b := Aside0.mk (Kd.R_grown2 R26.out rfl hgg (fun k h => nomatch h)); have R29 := Aside0.mk hoo; obtain ⟨A29, c29, e29⟩ := Kd.R_slice R29.out; subst e29; clear R26 BX4; clear hoo hbb hgg hnn) | (clear S6; (with_reducible refine gate_builtin (b := .append) (xs := #[.tmp 26, .tmp 29]) rfl ?_); at_builtin; refine Kd.R_append_rows k29 (w0 := w2) w2.heap.size rfl (.tmp 26) (.tmp 29) 24 29 (.agg #[(.int .i64 0), (.int .i64 0), (.int .i64 0), (.int .i64 0), (.string ⟨#[]⟩), (.int .i64 0), (.int .i64 0)]) 64 rfl Tryd.underlying24 info29 rfl (by decide) (by omega) v26 l0_6 [opN (-5), opN (-6)] A29 ([opN (-5), opN (-6)] : List S29).length c29 (fun _ => True) (fun _ => False) rfl rfl ?aO ?aR (fun _ _ h => h) (fun _ h => h.elim) ?aF ?aB ?aS ?aL ?_; (case aO => exact R26b.out); (case aR => exact (Kd.R_reads' R29.out).2.2); (case aF => exact fun _ _ => trivial); (case aB => exact BX5.out); (case aS => exact BX5.out.size); (case aL => exact HL2b.out); intro v30 w6 hoo hbb hgg hat; have BX6 := Aside0.mk hbb; have R30 := Aside0.mk (show Kd.R k29 29 w6 w2.heap.size (fun _ => True) v30 lO from HLO.out ▸ hoo); obtain ⟨go, cO, eO, hgo, hgolt, _⟩ := Kd.R_form R30.out HLP.out; subst eO; have GO6 := Aside0.mk hgolt; clear hgo hgolt R26b R29 BX5; clear hoo hbb hgg hat) | (clear S7; (with_reducible refine gate_dst (N := 31) rfl ?_); refine Kd.R_lit k29 (w0 := w6) w6.heap.size 29 ?hg (N := 31) ?hd (xs := ([] : List S29)) (inner := []) (ok := fun _ => True) (okp := fun _ => True) ?hr ?hp (fun _ hk => hk) trivial (Below.refl _ _) (Nat.le_refl _) (by simp) ?_; (case hd => rfl); (case hg => rfl); (case hr => first | (go_simp; done) | (go_simp; rfl)); (case hp => exact (Reps.none _ _)); intro v31 w7 hoo hbb hgg hnn; have BX7 := Aside0.mk hbb; have R31 := Aside0.mk hoo; have RO7 := Aside0.mk (Kd.R_below R30.out hbb); clear hoo hbb hgg hnn) | (clear S8; (with_reducible refine gate_builtin (b := .append) (xs := #[.tmp 31, .tmp 32]) rfl ?_); at_builtin; refine Kd.R_append_rows k29 (w0 := w6) w6.heap.size rfl (.tmp 31) (.tmp 32) 24 29 (.agg #[(.int .i64 0), (.int .i64 0), (.int .i64 0), (.int .i64 0), (.string ⟨#[]⟩), (.int .i64 0), (.int .i64 0)]) 64 rfl Tryd.underlying24 info29 rfl (by decide) (by omega) v31 [] lO (some ⟨go, 0, none⟩) lO.length cO (fun _ => True) (fun _ => False) rfl rfl ?aO ?aR (fun _ _ h => h) (fun _ h => h.elim) ?aF ?aB ?aS ?aL ?_; (case aO => exact R31.out); (case aR => exact (Kd.R_reads' RO7.out).2.2); (case aF => exact fun _ _ => trivial); (case aB => exact BX7.out); (case aS => exact BX7.out.size); (case aL => exact HL3.out); intro v33 w8 hoo hbb hgg hat; have RO := Aside0.mk (Kd.R_lower (Kd.R_below R30.out hbb) BW2.out.size); have RW1 := Aside0.mk (show Kd.R k29 29 w8 w6.heap.size (fun _ => True) v33 lO from hoo); obtain ⟨gW, cW, eW, hgw, hgwlt, _⟩ := Kd.R_form RW1.out HLP.out; subst eW; have NOW := Aside0.mk (show go ≠ gW from Nat.ne_of_lt (Nat.lt_of_lt_of_le GO6.out hgw)); have Bs := Aside0.mk (blk_below (blk_below Bs2.out BX6.out) hbb); have BW := Aside0.mk (below_step (below_step BW2.out BX6.out) hbb); have RW := Aside0.mk (Kd.R_lower RW1.out (Nat.le_trans BW2.out.size BX6.out.size)); have hcap := (Kd.R_reads' RO.out).2.1; have c0 : w8.cell? ⟨gs, 0, none⟩ = some (.int .i64 a0_0) := (by rw [Lib.cell_of_heap Bs.out]; rfl); have c1 : w8.cell? ⟨gs, 1, none⟩ = some (.int .i64 a0_1) := (by rw [Lib.cell_of_heap Bs.out]; rfl); have c2 : w8.cell? ⟨gs, 2, none⟩ = some (.int .i64 a0_2) := (by rw [Lib.cell_of_heap Bs.out]; rfl); have c3 : w8.cell? ⟨gs, 3, none⟩ = some (.int .i64 a0_3) := (by rw [Lib.cell_of_heap Bs.out]; rfl); have c4 : w8.cell? ⟨gs, 4, none⟩ = some (.int .i64 a0_4) := (by rw [Lib.cell_of_heap Bs.out]; rfl); have c5 : w8.cell? ⟨gs, 5, none⟩ = some (.int .i64 a0_5) := (by rw [Lib.cell_of_heap Bs.out]; rfl); have c6 : w8.cell? ⟨gs, 6, none⟩ = some (.slice A0_6 l0_6.length c0_6) := (by rw [Lib.cell_of_heap Bs.out]; rfl); clear hgw hgwlt R31 R30 RO7 RW1 BX7 Bs2 BX6 BW2 GO6; clear hoo hbb hgg hat) | go_in)
  have hq0 : (0 : Int) ≤ (l0_6.length : Int) := by omega
  have hq1 : (l0_6.length : Int) ≤ (cO : Int) := by have := HLL.out; omega
  have nn0 := World.new_ne w8 _ c0
  have nn1 := World.new_ne w8 _ c1
  have nn2 := World.new_ne w8 _ c2
  have nn3 := World.new_ne w8 _ c3
  have nn4 := World.new_ne w8 _ c4
  have nn5 := World.new_ne w8 _ c5
  have nn6 := World.new_ne w8 _ c6
  go_region_held3 (fun w' => w'.cell? ⟨gs, 0, none⟩ = some (.int .i64 a0_0) ∧ w'.cell? ⟨gs, 1, none⟩ = some (.int .i64 a0_1) ∧ w'.cell? ⟨gs, 2, none⟩ = some (.int .i64 a0_2) ∧ w'.cell? ⟨gs, 3, none⟩ = some (.int .i64 a0_3) ∧ w'.cell? ⟨gs, 4, none⟩ = some (.int .i64 a0_4) ∧ w'.cell? ⟨gs, 5, none⟩ = some (.int .i64 a0_5) ∧ w'.cell? ⟨gs, 6, none⟩ = some (.slice A0_6 l0_6.length c0_6)) (go_keep) (fail)
  rename_i hHld
  clear hHld
  clear nn0 nn1 nn2 nn3 nn4 nn5 nn6 c0 c1 c2 c3 c4 c5 c6 hq0 hq1
  have Bg := Aside0.mk (blk_drew (blk_new w8 (.cells #[.int .i64 a0_0, .int .i64 a0_1, .int .i64 a0_2, .int .i64 a0_3, .int .i64 a0_4, .int .i64 a0_5, .slice (some ⟨go, 0, none⟩) l0_6.length cO] 26 (0, 0))))
  have NEsg := Aside0.mk (show gs ≠ w8.heap.size from Nat.ne_of_lt (blk_lt Bs.out))
  have GEg := Aside0.mk (show w.heap.size ≤ w8.heap.size from BW.out.size)
  have HCAP := Aside0.mk (show l0_6.length ≤ cO by have := HLL.out; omega)
  replace Bs := Aside0.mk (blk_drew (blk_alloc Bs.out (.cells #[.int .i64 a0_0, .int .i64 a0_1, .int .i64 a0_2, .int .i64 a0_3, .int .i64 a0_4, .int .i64 a0_5, .slice (some ⟨go, 0, none⟩) l0_6.length cO] 26 (0, 0))))
  replace BW := Aside0.mk (below_drew1 (below_alloc BW.out (.cells #[.int .i64 a0_0, .int .i64 a0_1, .int .i64 a0_2, .int .i64 a0_3, .int .i64 a0_4, .int .i64 a0_5, .slice (some ⟨go, 0, none⟩) l0_6.length cO] 26 (0, 0))))
  replace RO := Aside0.mk (Kd.R_drew (Kd.R_alloc RO.out (.cells #[.int .i64 a0_0, .int .i64 a0_1, .int .i64 a0_2, .int .i64 a0_3, .int .i64 a0_4, .int .i64 a0_5, .slice (some ⟨go, 0, none⟩) l0_6.length cO] 26 (0, 0))))
  replace RW := Aside0.mk (Kd.R_drew (Kd.R_alloc RW.out (.cells #[.int .i64 a0_0, .int .i64 a0_1, .int .i64 a0_2, .int .i64 a0_3, .int .i64 a0_4, .int .i64 a0_5, .slice (some ⟨go, 0, none⟩) l0_6.length cO] 26 (0, 0))))
  generalize w8.heap.size = gg at Bg NEsg GEg ⊢
  generalize (w8.alloc (.cells #[.int .i64 a0_0, .int .i64 a0_1, .int .i64 a0_2, .int .i64 a0_3, .int .i64 a0_4, .int .i64 a0_5, .slice (some ⟨go, 0, none⟩) l0_6.length cO] 26 (0, 0))).drew = w9 at Bg Bs BW RO RW ⊢
  have S1 : True := trivial
  have S2 : True := trivial
  have S3 : True := trivial
  have S4 : True := trivial
  have S5 : True := trivial
  have S6 : True := trivial
  have S7 : True := trivial
  have S8 : True := trivial
  have S9 : True := trivial
  have S10 : True := trivial
  have S11 : True := trivial
  have S12 : True := trivial
  clear hcap
  have d0 : w9.cell? ⟨gg, 0, none⟩ = some (.int .i64 a0_0) := (by rw [Lib.cell_of_heap Bg.out]; rfl)
  have d1 : w9.cell? ⟨gg, 1, none⟩ = some (.int .i64 a0_1) := (by rw [Lib.cell_of_heap Bg.out]; rfl)
  have d2 : w9.cell? ⟨gg, 2, none⟩ = some (.int .i64 a0_2) := (by rw [Lib.cell_of_heap Bg.out]; rfl)
  have d3 : w9.cell? ⟨gg, 3, none⟩ = some (.int .i64 a0_3) := (by rw [Lib.cell_of_heap Bg.out]; rfl)
  have d4 : w9.cell? ⟨gg, 4, none⟩ = some (.int .i64 a0_4) := (by rw [Lib.cell_of_heap Bg.out]; rfl)
  have d5 : w9.cell? ⟨gg, 5, none⟩ = some (.int .i64 a0_5) := (by rw [Lib.cell_of_heap Bg.out]; rfl)
  have d6 : w9.cell? ⟨gg, 6, none⟩ = some (.slice (some ⟨go, 0, none⟩) l0_6.length cO) := (by rw [Lib.cell_of_heap Bg.out]; rfl)
  go_wp2_with (first | (clear S1; go_at_call 14; refine (script_Print.calls a0_0 a0_1 a0_2 a0_3 a0_4 a0_5 (some ⟨go, 0, none⟩) cO l0_6 T _ (tab_keep hTab BW.out) (C_take HLO.out (Kd.R_reads' RO.out).2.2 (by simp)) HCAP.out HP.out).mono ?_; rintro e w10 ⟨rfl, hbb⟩; clear d0 d1 d2 d3 d4 d5 d6; replace Bs := Aside0.mk (blk_below Bs.out hbb); replace Bg := Aside0.mk (blk_below Bg.out hbb); replace RO := Aside0.mk (Kd.R_below RO.out hbb); replace RW := Aside0.mk (Kd.R_below RW.out hbb); replace BW := Aside0.mk (below_step BW.out hbb); clear hbb) | (clear S2; go_at_call 23; refine (script_Parse.calls k1 T a0_0 a0_1 a0_2 a0_3 a0_4 a0_5 L 0 0 _ (tab_keep hTab BW.out) (tabE_keep hTabE BW.out) (tabM_keep hTabM BW.out) HPP.out).mono ?_; rintro e w11 ⟨vn1, rfl, hoo, hbb⟩; have N1 := Aside0.mk (show ∀ k, vn1.ownBlock = some k → k ≠ go ∧ k ≠ gW from fun k hk => ⟨Nat.ne_of_gt (Nat.lt_of_lt_of_le (Kd.R_lt RO.out go rfl) (Kd.R_base hoo k hk)), Nat.ne_of_gt (Nat.lt_of_lt_of_le (Kd.R_lt RW.out gW rfl) (Kd.R_base hoo k hk))⟩); have R1 := Aside0.mk (Kd.R_lower hoo BW.out.size); replace Bs := Aside0.mk (blk_below Bs.out hbb); replace Bg := Aside0.mk (blk_below Bg.out hbb); replace RO := Aside0.mk (Kd.R_below RO.out hbb); replace RW := Aside0.mk (Kd.R_below RW.out hbb); replace BW := Aside0.mk (below_step BW.out hbb); obtain ⟨Ar1, cr1, er1⟩ := Kd.R_slice R1.out; subst er1; clear hoo hbb) | (clear S3; (with_reducible refine gate_dst (N := 7) rfl ?_); refine box_event ?hg (N := 7) ?hd (cs := #[.int .i64 0, .int .i64 0, .int .i64 0, .int .i64 0, .int .i64 0, .int .i64 0, .slice none 0 0]) (t := 26) ?hr ?_; (case hd => rfl); (case hg => rfl); (case hr => first | (go_simp; done) | (go_simp; rfl)); intro gx1 hgx w12 hbox hbb; have NEs1 := Aside0.mk (show gs ≠ gx1 by rw [hgx]; exact Nat.ne_of_lt (blk_lt Bs.out)); have NE1s := Aside0.mk NEs1.out.symm; have NEg1 := Aside0.mk (show gg ≠ gx1 by rw [hgx]; exact Nat.ne_of_lt (blk_lt Bg.out)); have NE1g := Aside0.mk NEg1.out.symm; have GE1 := Aside0.mk (show w.heap.size ≤ gx1 by rw [hgx]; exact BW.out.size); have B1 := Aside0.mk hbox; replace Bs := Aside0.mk (blk_below Bs.out hbb); replace Bg := Aside0.mk (blk_below Bg.out hbb); replace RO := Aside0.mk (Kd.R_below RO.out hbb); replace RW := Aside0.mk (Kd.R_below RW.out hbb); replace R1 := Aside0.mk (Kd.R_below R1.out hbb); replace BW := Aside0.mk (below_step BW.out hbb); clear hbox hbb hgx) | (clear S4; refine st26at (g := gx1) rfl rfl rfl rfl rfl B1.out rfl rfl (by first | rfl | (simp [Value.oneCell'])) ?_; intro w13 hh hk hb; replace Bs := Aside0.mk (hk _ _ Bs.out NEs1.out); replace Bg := Aside0.mk (hk _ _ Bg.out NEg1.out); replace RO := Aside0.mk (R_other RO.out B1.out hk); replace RW := Aside0.mk (R_other RW.out B1.out hk); replace R1 := Aside0.mk (R_other R1.out B1.out hk); replace BW := Aside0.mk (hb _ _ BW.out GE1.out); replace B1 := Aside0.mk hh; clear hh hk hb) | (clear S5; go_at_call 23; refine (script_Parse.calls k1 T a0_0 a0_1 a0_2 a0_3 a0_4 a0_5 L 0 0 _ (tab_keep hTab BW.out) (tabE_keep hTabE BW.out) (tabM_keep hTabM BW.out) HPP.out).mono ?_; rintro e w14 ⟨vn2, rfl, hoo, hbb⟩; have N2 := Aside0.mk (show ∀ k, vn2.ownBlock = some k → k ≠ go ∧ k ≠ gW ∧ some k ≠ (Value.slice Ar1 L.length cr1).ownBlock from fun k hk => ⟨Nat.ne_of_gt (Nat.lt_of_lt_of_le (Kd.R_lt RO.out go rfl) (Kd.R_base hoo k hk)), Nat.ne_of_gt (Nat.lt_of_lt_of_le (Kd.R_lt RW.out gW rfl) (Kd.R_base hoo k hk)), fun e_ => absurd (Kd.R_lt R1.out k e_.symm) (Nat.not_lt.2 (Kd.R_base hoo k hk))⟩); have R2 := Aside0.mk (Kd.R_lower hoo BW.out.size); replace Bs := Aside0.mk (blk_below Bs.out hbb); replace Bg := Aside0.mk (blk_below Bg.out hbb); replace B1 := Aside0.mk (blk_below B1.out hbb); replace RO := Aside0.mk (Kd.R_below RO.out hbb); replace RW := Aside0.mk (Kd.R_below RW.out hbb); replace R1 := Aside0.mk (Kd.R_below R1.out hbb); replace BW := Aside0.mk (below_step BW.out hbb); obtain ⟨Ar2, cr2, er2⟩ := Kd.R_slice R2.out; subst er2; clear hoo hbb) | (clear S6; (with_reducible refine gate_dst (N := 10) rfl ?_); refine box_event ?hg (N := 10) ?hd (cs := #[.int .i64 0, .int .i64 0, .int .i64 0, .int .i64 0, .int .i64 0, .int .i64 0, .slice none 0 0]) (t := 26) ?hr ?_; (case hd => rfl); (case hg => rfl); (case hr => first | (go_simp; done) | (go_simp; rfl)); intro gx2 hgx w15 hbox hbb; have NEs2 := Aside0.mk (show gs ≠ gx2 by rw [hgx]; exact Nat.ne_of_lt (blk_lt Bs.out)); have NE2s := Aside0.mk NEs2.out.symm; have NEg2 := Aside0.mk (show gg ≠ gx2 by rw [hgx]; exact Nat.ne_of_lt (blk_lt Bg.out)); have NE2g := Aside0.mk NEg2.out.symm; have NE12 := Aside0.mk (show gx1 ≠ gx2 by rw [hgx]; exact Nat.ne_of_lt (blk_lt B1.out)); have NE21 := Aside0.mk NE12.out.symm; have GE2 := Aside0.mk (show w.heap.size ≤ gx2 by rw [hgx]; exact BW.out.size); have B2 := Aside0.mk hbox; replace Bs := Aside0.mk (blk_below Bs.out hbb); replace Bg := Aside0.mk (blk_below Bg.out hbb); replace B1 := Aside0.mk (blk_below B1.out hbb); replace RO := Aside0.mk (Kd.R_below RO.out hbb); replace RW := Aside0.mk (Kd.R_below RW.out hbb); replace R1 := Aside0.mk (Kd.R_below R1.out hbb); replace R2 := Aside0.mk (Kd.R_below R2.out hbb); replace BW := Aside0.mk (below_step BW.out hbb); clear hbox hbb hgx) | (clear S7; refine st26at (g := gx2) rfl rfl rfl rfl rfl B2.out rfl rfl (by first | rfl | (simp [Value.oneCell'])) ?_; intro w16 hh hk hb; replace Bs := Aside0.mk (hk _ _ Bs.out NEs2.out); replace Bg := Aside0.mk (hk _ _ Bg.out NEg2.out); replace B1 := Aside0.mk (hk _ _ B1.out NE12.out); replace RO := Aside0.mk (R_other RO.out B2.out hk); replace RW := Aside0.mk (R_other RW.out B2.out hk); replace R1 := Aside0.mk (R_other R1.out B2.out hk); replace R2 := Aside0.mk (R_other R2.out B2.out hk); replace BW := Aside0.mk (hb _ _ BW.out GE2.out); replace B2 := Aside0.mk hh; clear hh hk hb; have c0 : w16.cell? ⟨gs, 0, none⟩ = some (.int .i64 a0_0) := (by rw [Lib.cell_of_heap Bs.out]; rfl); have c1 : w16.cell? ⟨gs, 1, none⟩ = some (.int .i64 a0_1) := (by rw [Lib.cell_of_heap Bs.out]; rfl); have c2 : w16.cell? ⟨gs, 2, none⟩ = some (.int .i64 a0_2) := (by rw [Lib.cell_of_heap Bs.out]; rfl); have c3 : w16.cell? ⟨gs, 3, none⟩ = some (.int .i64 a0_3) := (by rw [Lib.cell_of_heap Bs.out]; rfl); have c4 : w16.cell? ⟨gs, 4, none⟩ = some (.int .i64 a0_4) := (by rw [Lib.cell_of_heap Bs.out]; rfl); have c5 : w16.cell? ⟨gs, 5, none⟩ = some (.int .i64 a0_5) := (by rw [Lib.cell_of_heap Bs.out]; rfl); have c6 : w16.cell? ⟨gs, 6, none⟩ = some (.slice A0_6 l0_6.length c0_6) := (by rw [Lib.cell_of_heap Bs.out]; rfl);) | (clear S8; go_at_call 28; refine (barrowlaw24_plain.calls kN a0_0 a0_1 a0_2 a0_3 a0_4 a0_5 A0_6 c0_6 l0_6 a0_0 a0_1 a0_2 a0_3 a0_4 a0_5 L _ (Kd.C_below HR0.out BW.out) HC0.out HN.out).mono ?_; rintro e w17 ⟨vn3, rfl, hoo, hbb⟩; clear c0 c1 c2 c3 c4 c5 c6; have N3 := Aside0.mk (show ∀ k, vn3.ownBlock = some k → k ≠ go ∧ k ≠ gW ∧ some k ≠ (Value.slice Ar1 L.length cr1).ownBlock ∧ some k ≠ (Value.slice Ar2 L.length cr2).ownBlock from fun k hk => ⟨Nat.ne_of_gt (Nat.lt_of_lt_of_le (Kd.R_lt RO.out go rfl) (Kd.R_base hoo k hk)), Nat.ne_of_gt (Nat.lt_of_lt_of_le (Kd.R_lt RW.out gW rfl) (Kd.R_base hoo k hk)), fun e_ => absurd (Kd.R_lt R1.out k e_.symm) (Nat.not_lt.2 (Kd.R_base hoo k hk)), fun e_ => absurd (Kd.R_lt R2.out k e_.symm) (Nat.not_lt.2 (Kd.R_base hoo k hk))⟩); have R3 := Aside0.mk (Kd.R_lower hoo BW.out.size); replace Bs := Aside0.mk (blk_below Bs.out hbb); replace Bg := Aside0.mk (blk_below Bg.out hbb); replace B1 := Aside0.mk (blk_below B1.out hbb); replace B2 := Aside0.mk (blk_below B2.out hbb); replace RO := Aside0.mk (Kd.R_below RO.out hbb); replace RW := Aside0.mk (Kd.R_below RW.out hbb); replace R1 := Aside0.mk (Kd.R_below R1.out hbb); replace R2 := Aside0.mk (Kd.R_below R2.out hbb); replace BW := Aside0.mk (below_step BW.out hbb); obtain ⟨Ar3, cr3, er3⟩ := Kd.R_slice R3.out; subst er3; clear hoo hbb) | (clear S9; (with_reducible refine gate_dst (N := 13) rfl ?_); refine box_event ?hg (N := 13) ?hd (cs := #[.int .i64 0, .int .i64 0, .int .i64 0, .int .i64 0, .int .i64 0, .int .i64 0, .slice none 0 0]) (t := 26) ?hr ?_; (case hd => rfl); (case hg => rfl); (case hr => first | (go_simp; done) | (go_simp; rfl)); intro gx3 hgx w18 hbox hbb; have NEs3 := Aside0.mk (show gs ≠ gx3 by rw [hgx]; exact Nat.ne_of_lt (blk_lt Bs.out)); have NE3s := Aside0.mk NEs3.out.symm; have NEg3 := Aside0.mk (show gg ≠ gx3 by rw [hgx]; exact Nat.ne_of_lt (blk_lt Bg.out)); have NE3g := Aside0.mk NEg3.out.symm; have NE13 := Aside0.mk (show gx1 ≠ gx3 by rw [hgx]; exact Nat.ne_of_lt (blk_lt B1.out)); have NE31 := Aside0.mk NE13.out.symm; have NE23 := Aside0.mk (show gx2 ≠ gx3 by rw [hgx]; exact Nat.ne_of_lt (blk_lt B2.out)); have NE32 := Aside0.mk NE23.out.symm; have GE3 := Aside0.mk (show w.heap.size ≤ gx3 by rw [hgx]; exact BW.out.size); have B3 := Aside0.mk hbox; replace Bs := Aside0.mk (blk_below Bs.out hbb); replace Bg := Aside0.mk (blk_below Bg.out hbb); replace B1 := Aside0.mk (blk_below B1.out hbb); replace B2 := Aside0.mk (blk_below B2.out hbb); replace RO := Aside0.mk (Kd.R_below RO.out hbb); replace RW := Aside0.mk (Kd.R_below RW.out hbb); replace R1 := Aside0.mk (Kd.R_below R1.out hbb); replace R2 := Aside0.mk (Kd.R_below R2.out hbb); replace R3 := Aside0.mk (Kd.R_below R3.out hbb); replace BW := Aside0.mk (below_step BW.out hbb); clear hbox hbb hgx) | (clear S10; refine st26at (g := gx3) rfl rfl rfl rfl rfl B3.out rfl rfl (by first | rfl | (simp [Value.oneCell'])) ?_; intro w19 hh hk hb; replace Bs := Aside0.mk (hk _ _ Bs.out NEs3.out); replace Bg := Aside0.mk (hk _ _ Bg.out NEg3.out); replace B1 := Aside0.mk (hk _ _ B1.out NE13.out); replace B2 := Aside0.mk (hk _ _ B2.out NE23.out); replace RO := Aside0.mk (R_other RO.out B3.out hk); replace RW := Aside0.mk (R_other RW.out B3.out hk); replace R1 := Aside0.mk (R_other R1.out B3.out hk); replace R2 := Aside0.mk (R_other R2.out B3.out hk); replace R3 := Aside0.mk (R_other R3.out B3.out hk); replace BW := Aside0.mk (hb _ _ BW.out GE3.out); replace B3 := Aside0.mk hh; clear hh hk hb; have c0 : w19.cell? ⟨gx1, 0, none⟩ = some (.int .i64 a0_0) := (by rw [Lib.cell_of_heap B1.out]; rfl); have c1 : w19.cell? ⟨gx1, 1, none⟩ = some (.int .i64 a0_1) := (by rw [Lib.cell_of_heap B1.out]; rfl); have c2 : w19.cell? ⟨gx1, 2, none⟩ = some (.int .i64 a0_2) := (by rw [Lib.cell_of_heap B1.out]; rfl); have c3 : w19.cell? ⟨gx1, 3, none⟩ = some (.int .i64 a0_3) := (by rw [Lib.cell_of_heap B1.out]; rfl); have c4 : w19.cell? ⟨gx1, 4, none⟩ = some (.int .i64 a0_4) := (by rw [Lib.cell_of_heap B1.out]; rfl); have c5 : w19.cell? ⟨gx1, 5, none⟩ = some (.int .i64 a0_5) := (by rw [Lib.cell_of_heap B1.out]; rfl); have c6 : w19.cell? ⟨gx1, 6, none⟩ = some (.slice Ar1 L.length cr1) := (by rw [Lib.cell_of_heap B1.out]; rfl); have d0 : w19.cell? ⟨gx3, 0, none⟩ = some (.int .i64 a0_0) := (by rw [Lib.cell_of_heap B3.out]; rfl); have d1 : w19.cell? ⟨gx3, 1, none⟩ = some (.int .i64 a0_1) := (by rw [Lib.cell_of_heap B3.out]; rfl); have d2 : w19.cell? ⟨gx3, 2, none⟩ = some (.int .i64 a0_2) := (by rw [Lib.cell_of_heap B3.out]; rfl); have d3 : w19.cell? ⟨gx3, 3, none⟩ = some (.int .i64 a0_3) := (by rw [Lib.cell_of_heap B3.out]; rfl); have d4 : w19.cell? ⟨gx3, 4, none⟩ = some (.int .i64 a0_4) := (by rw [Lib.cell_of_heap B3.out]; rfl); have d5 : w19.cell? ⟨gx3, 5, none⟩ = some (.int .i64 a0_5) := (by rw [Lib.cell_of_heap B3.out]; rfl); have d6 : w19.cell? ⟨gx3, 6, none⟩ = some (.slice Ar3 L.length cr3) := (by rw [Lib.cell_of_heap B3.out]; rfl);) | (clear S11; go_at_call 25; refine (barrowref24_Equal.calls kE a0_0 a0_1 a0_2 a0_3 a0_4 a0_5 Ar1 cr1 L a0_0 a0_1 a0_2 a0_3 a0_4 a0_5 Ar3 cr3 L true _ (Kd.R_reads' R1.out).2.2 (Kd.R_reads' R1.out).2.1 (Kd.R_reads' R3.out).2.2 (Kd.R_reads' R3.out).2.1 HE.out).mono ?_; rintro e w20 ⟨rfl, hbb⟩; clear c0 c1 c2 c3 c4 c5 c6 d0 d1 d2 d3 d4 d5 d6; replace Bs := Aside0.mk (blk_below Bs.out hbb); replace Bg := Aside0.mk (blk_below Bg.out hbb); replace B1 := Aside0.mk (blk_below B1.out hbb); replace B2 := Aside0.mk (blk_below B2.out hbb); replace B3 := Aside0.mk (blk_below B3.out hbb); replace RO := Aside0.mk (Kd.R_below RO.out hbb); replace RW := Aside0.mk (Kd.R_below RW.out hbb); replace R1 := Aside0.mk (Kd.R_below R1.out hbb); replace R2 := Aside0.mk (Kd.R_below R2.out hbb); replace R3 := Aside0.mk (Kd.R_below R3.out hbb); replace BW := Aside0.mk (below_step BW.out hbb); have c0 : w20.cell? ⟨gx2, 0, none⟩ = some (.int .i64 a0_0) := (by rw [Lib.cell_of_heap B2.out]; rfl); have c1 : w20.cell? ⟨gx2, 1, none⟩ = some (.int .i64 a0_1) := (by rw [Lib.cell_of_heap B2.out]; rfl); have c2 : w20.cell? ⟨gx2, 2, none⟩ = some (.int .i64 a0_2) := (by rw [Lib.cell_of_heap B2.out]; rfl); have c3 : w20.cell? ⟨gx2, 3, none⟩ = some (.int .i64 a0_3) := (by rw [Lib.cell_of_heap B2.out]; rfl); have c4 : w20.cell? ⟨gx2, 4, none⟩ = some (.int .i64 a0_4) := (by rw [Lib.cell_of_heap B2.out]; rfl); have c5 : w20.cell? ⟨gx2, 5, none⟩ = some (.int .i64 a0_5) := (by rw [Lib.cell_of_heap B2.out]; rfl); have c6 : w20.cell? ⟨gx2, 6, none⟩ = some (.slice Ar2 L.length cr2) := (by rw [Lib.cell_of_heap B2.out]; rfl); have d0 : w20.cell? ⟨gx3, 0, none⟩ = some (.int .i64 a0_0) := (by rw [Lib.cell_of_heap B3.out]; rfl); have d1 : w20.cell? ⟨gx3, 1, none⟩ = some (.int .i64 a0_1) := (by rw [Lib.cell_of_heap B3.out]; rfl); have d2 : w20.cell? ⟨gx3, 2, none⟩ = some (.int .i64 a0_2) := (by rw [Lib.cell_of_heap B3.out]; rfl); have d3 : w20.cell? ⟨gx3, 3, none⟩ = some (.int .i64 a0_3) := (by rw [Lib.cell_of_heap B3.out]; rfl); have d4 : w20.cell? ⟨gx3, 4, none⟩ = some (.int .i64 a0_4) := (by rw [Lib.cell_of_heap B3.out]; rfl); have d5 : w20.cell? ⟨gx3, 5, none⟩ = some (.int .i64 a0_5) := (by rw [Lib.cell_of_heap B3.out]; rfl); have d6 : w20.cell? ⟨gx3, 6, none⟩ = some (.slice Ar3 L.length cr3) := (by rw [Lib.cell_of_heap B3.out]; rfl); clear hbb) | (clear S12; go_at_call 25; refine (barrowref24_Equal.calls kE a0_0 a0_1 a0_2 a0_3 a0_4 a0_5 Ar2 cr2 L a0_0 a0_1 a0_2 a0_3 a0_4 a0_5 Ar3 cr3 L true _ (Kd.R_reads' R2.out).2.2 (Kd.R_reads' R2.out).2.1 (Kd.R_reads' R3.out).2.2 (Kd.R_reads' R3.out).2.1 HE.out).mono ?_; rintro e w21 ⟨rfl, hbb⟩; clear c0 c1 c2 c3 c4 c5 c6 d0 d1 d2 d3 d4 d5 d6; replace Bs := Aside0.mk (blk_below Bs.out hbb); replace Bg := Aside0.mk (blk_below Bg.out hbb); replace B1 := Aside0.mk (blk_below B1.out hbb); replace B2 := Aside0.mk (blk_below B2.out hbb); replace B3 := Aside0.mk (blk_below B3.out hbb); replace RO := Aside0.mk (Kd.R_below RO.out hbb); replace RW := Aside0.mk (Kd.R_below RW.out hbb); replace R1 := Aside0.mk (Kd.R_below R1.out hbb); replace R2 := Aside0.mk (Kd.R_below R2.out hbb); replace R3 := Aside0.mk (Kd.R_below R3.out hbb); replace BW := Aside0.mk (below_step BW.out hbb);  clear hbb) | go_in)
  have K := Aside0.mk (show KS w gs gg gx1 gx2 gx3 #[.int .i64 a0_0, .int .i64 a0_1, .int .i64 a0_2, .int .i64 a0_3, .int .i64 a0_4, .int .i64 a0_5, .slice A0_6 l0_6.length c0_6] #[.int .i64 a0_0, .int .i64 a0_1, .int .i64 a0_2, .int .i64 a0_3, .int .i64 a0_4, .int .i64 a0_5, .slice (some ⟨go, 0, none⟩) l0_6.length cO] #[.int .i64 a0_0, .int .i64 a0_1, .int .i64 a0_2, .int .i64 a0_3, .int .i64 a0_4, .int .i64 a0_5, .slice Ar1 L.length cr1] #[.int .i64 a0_0, .int .i64 a0_1, .int .i64 a0_2, .int .i64 a0_3, .int .i64 a0_4, .int .i64 a0_5, .slice Ar2 L.length cr2] #[.int .i64 a0_0, .int .i64 a0_1, .int .i64 a0_2, .int .i64 a0_3, .int .i64 a0_4, .int .i64 a0_5, .slice Ar3 L.length cr3] (.slice (some ⟨go, 0, none⟩) lO.length cO) (.slice (some ⟨gW, 0, none⟩) lO.length cW) (.slice Ar1 L.length cr1) (.slice Ar2 L.length cr2) (.slice Ar3 L.length cr3) lO lO L L L _ from ⟨Bs.out, Bg.out, B1.out, B2.out, B3.out, Kd.R_reok rfl RO.out (fun k hk => ⟨fun e => NOW.out (by injection hk with e1; injection e with e2; exact e1.trans e2), fun e => (N2.out k e.symm).1 (by injection hk with e1; exact e1.symm), fun e => (N3.out k e.symm).1 (by injection hk with e1; exact e1.symm)⟩), RW.out,
    Kd.R_reok rfl R1.out (fun k hk => ⟨fun e => (N1.out k hk).1 (by injection e), fun e => (N1.out k hk).2 (by injection e), fun e => (N2.out k e.symm).2.2 hk.symm, fun e => (N3.out k e.symm).2.2.1 hk.symm⟩), R2.out, R3.out, BW.out⟩)
  clear Bs Bg B1 B2 B3 RO RW R1 R2 R3 BW N1 N2 N3
  go_loopw [14] (fun v14 wr => ∃ i : Nat, v14 = .int .i64 i ∧ i ≤ lO.length ∧ Aside0 (KS w gs gg gx1 gx2 gx3 #[.int .i64 a0_0, .int .i64 a0_1, .int .i64 a0_2, .int .i64 a0_3, .int .i64 a0_4, .int .i64 a0_5, .slice A0_6 l0_6.length c0_6] #[.int .i64 a0_0, .int .i64 a0_1, .int .i64 a0_2, .int .i64 a0_3, .int .i64 a0_4, .int .i64 a0_5, .slice (some ⟨go, 0, none⟩) l0_6.length cO] #[.int .i64 a0_0, .int .i64 a0_1, .int .i64 a0_2, .int .i64 a0_3, .int .i64 a0_4, .int .i64 a0_5, .slice Ar1 L.length cr1] #[.int .i64 a0_0, .int .i64 a0_1, .int .i64 a0_2, .int .i64 a0_3, .int .i64 a0_4, .int .i64 a0_5, .slice Ar2 L.length cr2] #[.int .i64 a0_0, .int .i64 a0_1, .int .i64 a0_2, .int .i64 a0_3, .int .i64 a0_4, .int .i64 a0_5, .slice Ar3 L.length cr3] (.slice (some ⟨go, 0, none⟩) lO.length cO) (.slice (some ⟨gW, 0, none⟩) lO.length cW) (.slice Ar1 L.length cr1) (.slice Ar2 L.length cr2) (.slice Ar3 L.length cr3) lO lO L L L wr)) (fun v14 _ => lO.length - toN v14)
  case atStart => exact ⟨0, rfl, Nat.zero_le _, K⟩
  case round =>
    obtain ⟨i, rfl, hi, KK⟩ := hrel
    clear K
    by_cases hit : i < lO.length
    · have hp0 : (0 : Int) ≤ (i : Int) := by omega
      have hp1 : (i : Int) < (lO.length : Int) := by omega
      have hp3 : decide ((i : Int) < (lO.length : Int)) = true := decide_eq_true hp1
      have hwi := wrap_succ i (by have := HLL.out; omega)
      obtain ⟨ce_ho, hcl_ho, hM_ho, hcc_ho, hfr_ho⟩ := Kd.R_elem KK.out.rO z29 (i : Int) (by omega) (by omega)
      obtain rfl := k29_openM hM_ho
      have ho0 := hcc_ho 0 _ rfl
      simp only [Int.toNat_natCast, show k29.sz = 7 from rfl, Nat.add_zero] at ho0
      have ho1 := hcc_ho 1 _ rfl
      simp only [Int.toNat_natCast, show k29.sz = 7 from rfl, Nat.add_zero] at ho1
      have ho2 := hcc_ho 2 _ rfl
      simp only [Int.toNat_natCast, show k29.sz = 7 from rfl, Nat.add_zero] at ho2
      have ho3 := hcc_ho 3 _ rfl
      simp only [Int.toNat_natCast, show k29.sz = 7 from rfl, Nat.add_zero] at ho3
      have ho4 := hcc_ho 4 _ rfl
      simp only [Int.toNat_natCast, show k29.sz = 7 from rfl, Nat.add_zero] at ho4
      have ho5 := hcc_ho 5 _ rfl
      simp only [Int.toNat_natCast, show k29.sz = 7 from rfl, Nat.add_zero] at ho5
      have ho6 := hcc_ho 6 _ rfl
      simp only [Int.toNat_natCast, show k29.sz = 7 from rfl, Nat.add_zero] at ho6
      clear hcl_ho hM_ho hcc_ho
      obtain ⟨ce_hw, hcl_hw, hM_hw, hcc_hw, hfr_hw⟩ := Kd.R_elem KK.out.rW z29 (i : Int) (by omega) (by omega)
      obtain rfl := k29_openM hM_hw
      have hw0 := hcc_hw 0 _ rfl
      simp only [Int.toNat_natCast, show k29.sz = 7 from rfl, Nat.add_zero] at hw0
      have hw1 := hcc_hw 1 _ rfl
      simp only [Int.toNat_natCast, show k29.sz = 7 from rfl, Nat.add_zero] at hw1
      have hw2 := hcc_hw 2 _ rfl
      simp only [Int.toNat_natCast, show k29.sz = 7 from rfl, Nat.add_zero] at hw2
      have hw3 := hcc_hw 3 _ rfl
      simp only [Int.toNat_natCast, show k29.sz = 7 from rfl, Nat.add_zero] at hw3
      have hw4 := hcc_hw 4 _ rfl
      simp only [Int.toNat_natCast, show k29.sz = 7 from rfl, Nat.add_zero] at hw4
      have hw5 := hcc_hw 5 _ rfl
      simp only [Int.toNat_natCast, show k29.sz = 7 from rfl, Nat.add_zero] at hw5
      have hw6 := hcc_hw 6 _ rfl
      simp only [Int.toNat_natCast, show k29.sz = 7 from rfl, Nat.add_zero] at hw6
      clear hcl_hw hM_hw hcc_hw
      generalize (lO.getD i z29).f0 = f0 at ho0 hw0
      generalize (lO.getD i z29).f1 = f1 at ho1 hw1
      generalize (lO.getD i z29).f2 = f2 at ho2 hw2
      generalize (lO.getD i z29).f3 = f3 at ho3 hw3
      generalize (lO.getD i z29).f4 = f4 at ho4 hw4
      generalize (lO.getD i z29).f5 = f5 at ho5 hw5
      generalize (lO.getD i z29).f6 = f6 at ho6 hw6
      go_wp2
      go_region_held3 (fun w' => w'.cell? ⟨go, i * 7, none⟩ = some (.int .i64 f0) ∧ w'.cell? ⟨go, i * 7 + 1, none⟩ = some (.int .i64 f1) ∧ w'.cell? ⟨go, i * 7 + 2, none⟩ = some (.int .i64 f2) ∧ w'.cell? ⟨go, i * 7 + 3, none⟩ = some (.int .i64 f3) ∧ w'.cell? ⟨go, i * 7 + 4, none⟩ = some (.string f4) ∧ w'.cell? ⟨go, i * 7 + 5, none⟩ = some (.int .i64 f5) ∧ w'.cell? ⟨go, i * 7 + 6, none⟩ = some (.int .i64 f6) ∧ w'.cell? ⟨gW, i * 7, none⟩ = some (.int .i64 f0) ∧ w'.cell? ⟨gW, i * 7 + 1, none⟩ = some (.int .i64 f1) ∧ w'.cell? ⟨gW, i * 7 + 2, none⟩ = some (.int .i64 f2) ∧ w'.cell? ⟨gW, i * 7 + 3, none⟩ = some (.int .i64 f3) ∧ w'.cell? ⟨gW, i * 7 + 4, none⟩ = some (.string f4) ∧ w'.cell? ⟨gW, i * 7 + 5, none⟩ = some (.int .i64 f5) ∧ w'.cell? ⟨gW, i * 7 + 6, none⟩ = some (.int .i64 f6)) (go_keep) (fail)
      rename_i hHld
      clear hHld
      go_wp2
      go_roundw
      case rel => exact ⟨i + 1, by rw [hwi], by omega, ⟨KK.out.drew⟩⟩
      case measure => simp only [toN]; (try simp); omega
    · obtain rfl : i = lO.length := by omega
      clear hi hit
      go_wp2
      go_loopw [15] (fun v15 wr => ∃ (i : Nat) (x1 : List S29), v15 = .int .i64 i ∧ i ≤ L.length ∧ x1.length = L.length ∧ Aside0 (KS w gs gg gx1 gx2 gx3 #[.int .i64 a0_0, .int .i64 a0_1, .int .i64 a0_2, .int .i64 a0_3, .int .i64 a0_4, .int .i64 a0_5, .slice A0_6 l0_6.length c0_6] #[.int .i64 a0_0, .int .i64 a0_1, .int .i64 a0_2, .int .i64 a0_3, .int .i64 a0_4, .int .i64 a0_5, .slice (some ⟨go, 0, none⟩) l0_6.length cO] #[.int .i64 a0_0, .int .i64 a0_1, .int .i64 a0_2, .int .i64 a0_3, .int .i64 a0_4, .int .i64 a0_5, .slice Ar1 L.length cr1] #[.int .i64 a0_0, .int .i64 a0_1, .int .i64 a0_2, .int .i64 a0_3, .int .i64 a0_4, .int .i64 a0_5, .slice Ar2 L.length cr2] #[.int .i64 a0_0, .int .i64 a0_1, .int .i64 a0_2, .int .i64 a0_3, .int .i64 a0_4, .int .i64 a0_5, .slice Ar3 L.length cr3] (.slice (some ⟨go, 0, none⟩) lO.length cO) (.slice (some ⟨gW, 0, none⟩) lO.length cW) (.slice Ar1 L.length cr1) (.slice Ar2 L.length cr2) (.slice Ar3 L.length cr3) lO lO x1 L L wr)) (fun v15 _ => L.length - toN v15)
      case atStart => exact ⟨0, L, rfl, Nat.zero_le _, rfl, KK⟩
      case round =>
        obtain ⟨i, x1, rfl, hi, hx, KL⟩ := hrel
        clear KK
        have c6 : wr.cell? ⟨gx1, 6, none⟩ = some ((.slice Ar1 L.length cr1)) := (by rw [Lib.cell_of_heap KL.out.b1]; rfl)
        by_cases hit : i < L.length
        · have hp0 : (0 : Int) ≤ (i : Int) := by omega
          have hp1 : (i : Int) < (L.length : Int) := by omega
          have hp3 : decide ((i : Int) < (L.length : Int)) = true := decide_eq_true hp1
          have hwi := wrap_succ i (by have := HLL.out; omega)
          obtain ⟨gz, cz, ez, hgz, _, _⟩ := Kd.R_form KL.out.r1 (by omega)
          injection ez with ez1 ez2 ez3
          subst ez1
          have HGZ := Aside0.mk hgz
          clear ez2 ez3 hgz
          obtain ⟨ce_ho, hcl_ho, hM_ho, hcc_ho, hfr_ho⟩ := Kd.R_elem KL.out.r1 z29 (i : Int) (by omega) (by omega)
          obtain rfl := k29_openM hM_ho
          have ho0 := hcc_ho 0 _ rfl
          simp only [Int.toNat_natCast, show k29.sz = 7 from rfl, Nat.add_zero] at ho0
          have ho1 := hcc_ho 1 _ rfl
          simp only [Int.toNat_natCast, show k29.sz = 7 from rfl, Nat.add_zero] at ho1
          have ho2 := hcc_ho 2 _ rfl
          simp only [Int.toNat_natCast, show k29.sz = 7 from rfl, Nat.add_zero] at ho2
          have ho3 := hcc_ho 3 _ rfl
          simp only [Int.toNat_natCast, show k29.sz = 7 from rfl, Nat.add_zero] at ho3
          have ho4 := hcc_ho 4 _ rfl
          simp only [Int.toNat_natCast, show k29.sz = 7 from rfl, Nat.add_zero] at ho4
          have ho5 := hcc_ho 5 _ rfl
          simp only [Int.toNat_natCast, show k29.sz = 7 from rfl, Nat.add_zero] at ho5
          have ho6 := hcc_ho 6 _ rfl
          simp only [Int.toNat_natCast, show k29.sz = 7 from rfl, Nat.add_zero] at ho6
          have hf0 := hfr_ho 0
          simp only [Int.toNat_natCast, show k29.sz = 7 from rfl, Nat.add_zero] at hf0
          have hf1 := hfr_ho 1
          simp only [Int.toNat_natCast, show k29.sz = 7 from rfl, Nat.add_zero] at hf1
          have hf2 := hfr_ho 2
          simp only [Int.toNat_natCast, show k29.sz = 7 from rfl, Nat.add_zero] at hf2
          have hf3 := hfr_ho 3
          simp only [Int.toNat_natCast, show k29.sz = 7 from rfl, Nat.add_zero] at hf3
          have hf4 := hfr_ho 4
          simp only [Int.toNat_natCast, show k29.sz = 7 from rfl, Nat.add_zero] at hf4
          have hf5 := hfr_ho 5
          simp only [Int.toNat_natCast, show k29.sz = 7 from rfl, Nat.add_zero] at hf5
          have hf6 := hfr_ho 6
          simp only [Int.toNat_natCast, show k29.sz = 7 from rfl, Nat.add_zero] at hf6
          have HP := Kd.R_seg KL.out.r1 (i : Int) (by omega) (by omega) (seg := [.int .i64 (-1), .int .i64 0, .int .i64 0, .int .i64 0, .string ⟨#[]⟩, .int .i64 0, .int .i64 0]) (j := 0) hcl_ho hcc_ho (show 7 ≤ 7 from by decide) (x' := (opN (-1))) (k29_mkM _ _ _ (opN (-1))) (fun _ hk => hk)
          simp only [Int.toNat_natCast, show k29.sz = 7 from rfl, Nat.add_zero] at HP
          have HPP_ := Aside0.mk HP
          clear HP
          clear hcl_ho hM_ho hcc_ho hfr_ho
          have S1 : True := trivial
          go_wp2_with (first | (clear S1; (with_reducible refine gate_store (t := 29) (p := 102) rfl ?_); refine store_event (t := 29) (p := 102) (v := ?vo_) (w1 := (((((((wr.setCell ⟨gz, i * 7, none⟩ (.int .i64 (-1))).setCell ⟨gz, i * 7 + 1, none⟩ (.int .i64 0)).setCell ⟨gz, i * 7 + 2, none⟩ (.int .i64 0)).setCell ⟨gz, i * 7 + 3, none⟩ (.int .i64 0)).setCell ⟨gz, i * 7 + 4, none⟩ (.string ⟨#[]⟩)).setCell ⟨gz, i * 7 + 5, none⟩ (.int .i64 0)).setCell ⟨gz, i * 7 + 6, none⟩ (.int .i64 0))) ?hg ?ho ?hn ?hr ?_; (case ho => rfl); (case hg => rfl); (case hn => rfl); (case hr => first | (go_simp; done) | (go_simp; rfl)); intro w52 hw; replace KL := Aside0.mk (KS.put1 KL.out (show wr.grownBy w52 (some gz) by rw [hw]; exact HPP_.out.2) (by rw [hw]; exact HPP_.out.1) (by rw [hw]; (repeat (refine below_set ?_ HGZ.out)); exact KL.out.bw)); clear hw HPP_) | go_in)
          go_roundw
          case rel => exact ⟨i + 1, x1.set i (opN (-1)), by rw [hwi], by omega, by rw [List.length_set]; exact hx, KL⟩
          case measure => simp only [toN]; (try simp); omega
        · obtain rfl : i = L.length := by omega
          clear hi hit
          go_wp2
          go_loopw [16] (fun v16 wr => ∃ (i : Nat) (A_ : Option Addr) (c_ : Nat) (x1 : List S29), v16 = .int .i64 i ∧ i ≤ 16 ∧ x1.length ≤ L.length + i ∧ Aside0 (KS w gs gg gx1 gx2 gx3 #[.int .i64 a0_0, .int .i64 a0_1, .int .i64 a0_2, .int .i64 a0_3, .int .i64 a0_4, .int .i64 a0_5, .slice A0_6 l0_6.length c0_6] #[.int .i64 a0_0, .int .i64 a0_1, .int .i64 a0_2, .int .i64 a0_3, .int .i64 a0_4, .int .i64 a0_5, .slice (some ⟨go, 0, none⟩) l0_6.length cO] #[.int .i64 a0_0, .int .i64 a0_1, .int .i64 a0_2, .int .i64 a0_3, .int .i64 a0_4, .int .i64 a0_5, .slice A_ x1.length c_] #[.int .i64 a0_0, .int .i64 a0_1, .int .i64 a0_2, .int .i64 a0_3, .int .i64 a0_4, .int .i64 a0_5, .slice Ar2 L.length cr2] #[.int .i64 a0_0, .int .i64 a0_1, .int .i64 a0_2, .int .i64 a0_3, .int .i64 a0_4, .int .i64 a0_5, .slice Ar3 L.length cr3] (.slice (some ⟨go, 0, none⟩) lO.length cO) (.slice (some ⟨gW, 0, none⟩) lO.length cW) (.slice A_ x1.length c_) (.slice Ar2 L.length cr2) (.slice Ar3 L.length cr3) lO lO x1 L L wr)) (fun v16 _ => 16 - toN v16)
          case atStart => exact ⟨0, Ar1, cr1, x1, rfl, by omega, by omega, by rw [hx]; exact KL⟩
          case round =>
            clear KL c6 hx
            obtain ⟨i, A_, c_, x1, rfl, hi, hx, KL⟩ := hrel
            have c6 : wr.cell? ⟨gx1, 6, none⟩ = some (.slice A_ x1.length c_) := (by rw [Lib.cell_of_heap KL.out.b1]; rfl)
            by_cases hit : i < 16
            · have hp1 : (i : Int) < 16 := by omega
              have hp3 : decide ((i : Int) < 16) = true := decide_eq_true hp1
              have hwi := wrap_succ i (by omega)
              have HLa := Aside0.mk (show (x1.length + ([opN (-2)] : List S29).length) * 64 ≤ 140737488355328 by show (x1.length + 1) * 64 ≤ _; have := HLL.out; omega)
              have S1 : True := trivial
              have S2 : True := trivial
              go_wp2_with (first | (clear S1; (with_reducible refine gate_dst (N := 110) rfl ?_); refine Kd.R_lit k29 (w0 := wr) wr.heap.size 29 ?hg (N := 110) ?hd (xs := ([opN (-2)] : List S29)) (inner := [.int .i64 (-2), .int .i64 0, .int .i64 0, .int .i64 0, .string ⟨#[]⟩, .int .i64 0, .int .i64 0]) (ok := fun _ => True) (okp := fun _ => True) ?hr ?hp (fun _ hk => hk) trivial (Below.refl _ _) (Nat.le_refl _) (by simp) ?_; (case hd => rfl); (case hg => rfl); (case hr => first | (go_simp; done) | (go_simp; rfl)); (case hp => exact (Reps.c7 (show Kd.M k29 _ _ _ (opN (-2)) [_, _, _, _, _, _, _] from k29_mkM _ _ _ _) (Reps.none _ _))); intro v110 w60 hoo hbb hgg hnn; replace KL := Aside0.mk (KL.out.below hbb); have R110 := Aside0.mk hoo; obtain ⟨A6, c6_, e6⟩ := Kd.R_slice R110.out; subst e6; clear c6; clear hoo hbb hgg hnn) | (clear S2; (with_reducible refine gate_builtin (b := .append) (xs := #[.tmp 108, .tmp 110]) rfl ?_); at_builtin; refine Kd.R_append_rows k29 (w0 := w) w.heap.size rfl (.tmp 108) (.tmp 110) 24 29 (.agg #[(.int .i64 0), (.int .i64 0), (.int .i64 0), (.int .i64 0), (.string ⟨#[]⟩), (.int .i64 0), (.int .i64 0)]) 64 rfl Tryd.underlying24 info29 rfl (by decide) (by omega) (.slice A_ x1.length c_) x1 [opN (-2)] A6 ([opN (-2)] : List S29).length c6_ (fun k => some k ≠ (Value.slice (some ⟨go, 0, none⟩) lO.length cO).ownBlock ∧ some k ≠ (Value.slice (some ⟨gW, 0, none⟩) lO.length cW).ownBlock ∧ some k ≠ (Value.slice Ar2 L.length cr2).ownBlock ∧ some k ≠ (Value.slice Ar3 L.length cr3).ownBlock) (fun _ => False) rfl rfl ?aO ?aR (fun _ _ h => h) (fun _ h => h.elim) ?aF ?aB ?aS ?aL ?_; (case aO => exact KL.out.r1); (case aR => exact (Kd.R_reads' R110.out).2.2); (case aF => exact KL.out.fresh); (case aB => exact KL.out.bw); (case aS => exact KL.out.bw.size); (case aL => exact HLa.out); intro v111 w61 hoo hbb hgg hat; replace KL := Aside0.mk (KS.put1 KL.out hgg hoo hbb); obtain ⟨x2_, hx2⟩ : ∃ x2_, x1 ++ [opN (-2)] = x2_ := ⟨_, rfl⟩; have HX2 := Aside0.mk hx2; rw [hx2] at KL; clear hx2; obtain ⟨A7, c7, e7⟩ := Kd.R_slice KL.out.r1; subst e7; have hcz : w61.cell? ⟨gx1, 6, none⟩ = some (.slice A_ x1.length c_) := (by rw [Lib.cell_of_heap KL.out.b1]; rfl); have hfz : w61.frozen? ⟨gx1, 6, none⟩ = false := blk_frozen KL.out.b1 6; clear R110; clear hoo hbb hgg hat) | go_in)
              go_roundw
              case rel => exact ⟨i + 1, A7, c7, x2_, by first | rfl | rw [hwi], by omega, by rw [← HX2.out, List.length_append]; show x1.length + 1 ≤ _; omega, ⟨KS.box1 _ KL.out GE1.out NEs1.out NEg1.out NE21.out NE31.out⟩⟩
              case measure => simp only [toN]; (try simp); omega
            · obtain rfl : i = 16 := by omega
              clear hi hit c6
              have c0 : wr.cell? ⟨gx2, 0, none⟩ = some (.int .i64 a0_0) := (by rw [Lib.cell_of_heap KL.out.b2]; rfl)
              have c1 : wr.cell? ⟨gx2, 1, none⟩ = some (.int .i64 a0_1) := (by rw [Lib.cell_of_heap KL.out.b2]; rfl)
              have c2 : wr.cell? ⟨gx2, 2, none⟩ = some (.int .i64 a0_2) := (by rw [Lib.cell_of_heap KL.out.b2]; rfl)
              have c3 : wr.cell? ⟨gx2, 3, none⟩ = some (.int .i64 a0_3) := (by rw [Lib.cell_of_heap KL.out.b2]; rfl)
              have c4 : wr.cell? ⟨gx2, 4, none⟩ = some (.int .i64 a0_4) := (by rw [Lib.cell_of_heap KL.out.b2]; rfl)
              have c5 : wr.cell? ⟨gx2, 5, none⟩ = some (.int .i64 a0_5) := (by rw [Lib.cell_of_heap KL.out.b2]; rfl)
              have c6 : wr.cell? ⟨gx2, 6, none⟩ = some (.slice Ar2 L.length cr2) := (by rw [Lib.cell_of_heap KL.out.b2]; rfl)
              have d0 : wr.cell? ⟨gx3, 0, none⟩ = some (.int .i64 a0_0) := (by rw [Lib.cell_of_heap KL.out.b3]; rfl)
              have d1 : wr.cell? ⟨gx3, 1, none⟩ = some (.int .i64 a0_1) := (by rw [Lib.cell_of_heap KL.out.b3]; rfl)
              have d2 : wr.cell? ⟨gx3, 2, none⟩ = some (.int .i64 a0_2) := (by rw [Lib.cell_of_heap KL.out.b3]; rfl)
              have d3 : wr.cell? ⟨gx3, 3, none⟩ = some (.int .i64 a0_3) := (by rw [Lib.cell_of_heap KL.out.b3]; rfl)
              have d4 : wr.cell? ⟨gx3, 4, none⟩ = some (.int .i64 a0_4) := (by rw [Lib.cell_of_heap KL.out.b3]; rfl)
              have d5 : wr.cell? ⟨gx3, 5, none⟩ = some (.int .i64 a0_5) := (by rw [Lib.cell_of_heap KL.out.b3]; rfl)
              have d6 : wr.cell? ⟨gx3, 6, none⟩ = some (.slice Ar3 L.length cr3) := (by rw [Lib.cell_of_heap KL.out.b3]; rfl)
              have S1 : True := trivial
              go_wp2_with (first | (clear S1; go_at_call 25; refine (barrowref24_Equal.calls kE a0_0 a0_1 a0_2 a0_3 a0_4 a0_5 Ar2 cr2 L a0_0 a0_1 a0_2 a0_3 a0_4 a0_5 Ar3 cr3 L true _ (Kd.R_reads' KL.out.r2).2.2 (Kd.R_reads' KL.out.r2).2.1 (Kd.R_reads' KL.out.r3).2.2 (Kd.R_reads' KL.out.r3).2.1 HE.out).mono ?_; rintro e w70 ⟨rfl, hbb⟩; clear c0 c1 c2 c3 c4 c5 c6 d0 d1 d2 d3 d4 d5 d6; replace KL := Aside0.mk (KL.out.below hbb); clear hbb) | go_in)
              go_loopw [17] (fun v17 wr => ∃ (i : Nat), v17 = .int .i64 i ∧ i ≤ l0_6.length ∧ Aside0 (KS w gs gg gx1 gx2 gx3 #[.int .i64 a0_0, .int .i64 a0_1, .int .i64 a0_2, .int .i64 a0_3, .int .i64 a0_4, .int .i64 a0_5, .slice A0_6 l0_6.length c0_6] #[.int .i64 a0_0, .int .i64 a0_1, .int .i64 a0_2, .int .i64 a0_3, .int .i64 a0_4, .int .i64 a0_5, .slice (some ⟨go, 0, none⟩) l0_6.length cO] #[.int .i64 a0_0, .int .i64 a0_1, .int .i64 a0_2, .int .i64 a0_3, .int .i64 a0_4, .int .i64 a0_5, .slice A_ x1.length c_] #[.int .i64 a0_0, .int .i64 a0_1, .int .i64 a0_2, .int .i64 a0_3, .int .i64 a0_4, .int .i64 a0_5, .slice Ar2 L.length cr2] #[.int .i64 a0_0, .int .i64 a0_1, .int .i64 a0_2, .int .i64 a0_3, .int .i64 a0_4, .int .i64 a0_5, .slice Ar3 L.length cr3] (.slice (some ⟨go, 0, none⟩) lO.length cO) (.slice (some ⟨gW, 0, none⟩) lO.length cW) (.slice A_ x1.length c_) (.slice Ar2 L.length cr2) (.slice Ar3 L.length cr3) ((List.range i).map op15 ++ lO.drop i) lO x1 L L wr)) (fun v17 _ => l0_6.length - toN v17)
              case atStart => exact ⟨0, rfl, by omega, KL⟩
              case round =>
                clear KL
                obtain ⟨i, rfl, hi, KL⟩ := hrel
                have c6 : wr.cell? ⟨gs, 6, none⟩ = some (.slice A0_6 l0_6.length c0_6) := (by rw [Lib.cell_of_heap KL.out.bs]; rfl)
                by_cases hit : i < l0_6.length
                · have hp0 : (0 : Int) ≤ (i : Int) := by omega
                  have hp1 : (i : Int) < (l0_6.length : Int) := by omega
                  have hp3 : decide ((i : Int) < (l0_6.length : Int)) = true := decide_eq_true hp1
                  have hwi := wrap_succ i (by have := HLL.out; omega)
                  have d6 : wr.cell? ⟨gg, 6, none⟩ = some (.slice (some ⟨go, 0, none⟩) l0_6.length cO) := (by rw [Lib.cell_of_heap KL.out.bg]; rfl)
                  have hiO : i < lO.length := by have := HLL.out; omega
                  have hset := set15 lO i hiO
                  obtain ⟨xO, hxO⟩ : ∃ xO, (List.range i).map op15 ++ lO.drop i = xO := ⟨_, rfl⟩
                  rw [hxO] at KL hset
                  have GEO := Aside0.mk (show w.heap.size ≤ go from Kd.R_base KL.out.rO go rfl)
                  obtain ⟨ce_ho, hcl_ho, hM_ho, hcc_ho, hfr_ho⟩ := Kd.R_elem KL.out.rO z29 (i : Int) (by omega) (by have := HLL.out; omega)
                  obtain rfl := k29_openM hM_ho
                  have ho0 := hcc_ho 0 _ rfl
                  simp only [Int.toNat_natCast, show k29.sz = 7 from rfl, Nat.add_zero] at ho0
                  have ho1 := hcc_ho 1 _ rfl
                  simp only [Int.toNat_natCast, show k29.sz = 7 from rfl, Nat.add_zero] at ho1
                  have ho2 := hcc_ho 2 _ rfl
                  simp only [Int.toNat_natCast, show k29.sz = 7 from rfl, Nat.add_zero] at ho2
                  have ho3 := hcc_ho 3 _ rfl
                  simp only [Int.toNat_natCast, show k29.sz = 7 from rfl, Nat.add_zero] at ho3
                  have ho4 := hcc_ho 4 _ rfl
                  simp only [Int.toNat_natCast, show k29.sz = 7 from rfl, Nat.add_zero] at ho4
                  have ho5 := hcc_ho 5 _ rfl
                  simp only [Int.toNat_natCast, show k29.sz = 7 from rfl, Nat.add_zero] at ho5
                  have ho6 := hcc_ho 6 _ rfl
                  simp only [Int.toNat_natCast, show k29.sz = 7 from rfl, Nat.add_zero] at ho6
                  have hf0 := hfr_ho 0
                  simp only [Int.toNat_natCast, show k29.sz = 7 from rfl, Nat.add_zero] at hf0
                  have hf1 := hfr_ho 1
                  simp only [Int.toNat_natCast, show k29.sz = 7 from rfl, Nat.add_zero] at hf1
                  have hf2 := hfr_ho 2
                  simp only [Int.toNat_natCast, show k29.sz = 7 from rfl, Nat.add_zero] at hf2
                  have hf3 := hfr_ho 3
                  simp only [Int.toNat_natCast, show k29.sz = 7 from rfl, Nat.add_zero] at hf3
                  have hf4 := hfr_ho 4
                  simp only [Int.toNat_natCast, show k29.sz = 7 from rfl, Nat.add_zero] at hf4
                  have hf5 := hfr_ho 5
                  simp only [Int.toNat_natCast, show k29.sz = 7 from rfl, Nat.add_zero] at hf5
                  have hf6 := hfr_ho 6
                  simp only [Int.toNat_natCast, show k29.sz = 7 from rfl, Nat.add_zero] at hf6
                  have HP := Kd.R_seg KL.out.rO (i : Int) (by omega) (by have := HLL.out; omega) (seg := [.int .i64 15, .int .i64 (i : Int), .int .i64 0, .int .i64 0, .string ⟨#[]⟩, .int .i64 0, .int .i64 0]) (j := 0) hcl_ho hcc_ho (show 7 ≤ 7 from by decide) (x' := (op15 i)) (k29_mkM _ _ _ (op15 i)) (fun _ hk => hk)
                  simp only [Int.toNat_natCast, show k29.sz = 7 from rfl, Nat.add_zero] at HP
                  have HPP_ := Aside0.mk HP
                  clear HP
                  clear hcl_ho hM_ho hcc_ho hfr_ho
                  have HST := Aside0.mk hset
                  clear hset hxO hiO
                  have S1 : True := trivial
                  go_wp2
                  go_roundw
                  case rel =>
                    refine ⟨i + 1, by rw [hwi], by omega, ?_⟩
                    rw [← HST.out]
                    exact ⟨KS.putO KL.out (show wr.grownBy _ (some go) from HPP_.out.2) HPP_.out.1 (by (repeat (refine below_set ?_ GEO.out)); exact KL.out.bw)⟩
                  case measure => simp only [toN]; (try simp); omega
                · obtain rfl : i = l0_6.length := by omega
                  clear hi hit
                  have hL2l : L2.length = l0_6.length := by rw [← HL2.out]; simp
                  obtain ⟨xE, hxE⟩ : ∃ xE, (List.range l0_6.length).map op15 ++ lO.drop l0_6.length = xE := ⟨_, rfl⟩
                  rw [hxE] at KL
                  have hxE2 : L2 ++ [opN (-5), opN (-6)] = xE := by rw [← hxE, HL2.out, ← HLO.out, List.drop_append_of_le_length (Nat.le_refl _), List.drop_length]; rfl
                  have HXE := Aside0.mk hxE2
                  have HL2l := Aside0.mk hL2l
                  have HPR := Aside0.mk (show ∀ W : World, Aside0 (Tab W) → Kd.C k29 W (some ⟨go, 0, none⟩) L2.length L2 → Calls Tryd.prog 14 #[.agg #[.int .i64 a0_0, .int .i64 a0_1, .int .i64 a0_2, .int .i64 a0_3, .int .i64 a0_4, .int .i64 a0_5, .slice (some ⟨go, 0, none⟩) l0_6.length cO]] W fun e w' => e = .returned (.string T2) ∧ Below W.heap.size W w' from by
                    intro W hT hC
                    have h := script_Print.calls a0_0 a0_1 a0_2 a0_3 a0_4 a0_5 (some ⟨go, 0, none⟩) cO L2 T2 W hT hC (by rw [hL2l]; exact HCAP.out) HP2.out
                    rw [hL2l] at h
                    exact h)
                  clear hxE hxE2 hL2l
                  have d0 : wr.cell? ⟨gg, 0, none⟩ = some (.int .i64 a0_0) := (by rw [Lib.cell_of_heap KL.out.bg]; rfl)
                  have d1 : wr.cell? ⟨gg, 1, none⟩ = some (.int .i64 a0_1) := (by rw [Lib.cell_of_heap KL.out.bg]; rfl)
                  have d2 : wr.cell? ⟨gg, 2, none⟩ = some (.int .i64 a0_2) := (by rw [Lib.cell_of_heap KL.out.bg]; rfl)
                  have d3 : wr.cell? ⟨gg, 3, none⟩ = some (.int .i64 a0_3) := (by rw [Lib.cell_of_heap KL.out.bg]; rfl)
                  have d4 : wr.cell? ⟨gg, 4, none⟩ = some (.int .i64 a0_4) := (by rw [Lib.cell_of_heap KL.out.bg]; rfl)
                  have d5 : wr.cell? ⟨gg, 5, none⟩ = some (.int .i64 a0_5) := (by rw [Lib.cell_of_heap KL.out.bg]; rfl)
                  have d6 : wr.cell? ⟨gg, 6, none⟩ = some (.slice (some ⟨go, 0, none⟩) l0_6.length cO) := (by rw [Lib.cell_of_heap KL.out.bg]; rfl)
                  have S1 : True := trivial
                  have S2 : True := trivial
                  have S3 : True := trivial
                  have S4 : True := trivial
                  have S5 : True := trivial
                  go_wp2_with (first | (clear S1; go_at_call 14; refine (HPR.out _ (tab_keep hTab KL.out.bw) (C_take HXE.out (Kd.R_reads' KL.out.rO).2.2 (by simp))).mono ?_; rintro e w80 ⟨rfl, hbb⟩; clear c6 d0 d1 d2 d3 d4 d5 d6; replace KL := Aside0.mk (KL.out.below hbb); clear hbb) | (clear S2; go_at_call 23; refine (script_Parse.calls k2 T2 a0_0 a0_1 a0_2 a0_3 a0_4 a0_5 L2 0 0 _ (tab_keep hTab KL.out.bw) (tabE_keep hTabE KL.out.bw) (tabM_keep hTabM KL.out.bw) HPP2.out).mono ?_; rintro e w81 ⟨vn4, rfl, hoo, hbb⟩; have R4 := Aside0.mk hoo; replace KL := Aside0.mk (KL.out.below hbb); obtain ⟨Ar4, cr4, er4⟩ := Kd.R_slice R4.out; rw [HL2l.out] at er4; subst er4; clear hoo hbb) | (clear S3; (with_reducible refine gate_dst (N := 18) rfl ?_); refine box_event ?hg (N := 18) ?hd (cs := #[.int .i64 0, .int .i64 0, .int .i64 0, .int .i64 0, .int .i64 0, .int .i64 0, .slice none 0 0]) (t := 26) ?hr ?_; (case hd => rfl); (case hg => rfl); (case hr => first | (go_simp; done) | (go_simp; rfl)); intro ga hga w82 hbox hbb; have NEa := Aside0.mk (show gs ≠ ga ∧ gg ≠ ga ∧ gx1 ≠ ga ∧ gx2 ≠ ga ∧ gx3 ≠ ga by rw [hga]; exact ⟨Nat.ne_of_lt (blk_lt KL.out.bs), Nat.ne_of_lt (blk_lt KL.out.bg), Nat.ne_of_lt (blk_lt KL.out.b1), Nat.ne_of_lt (blk_lt KL.out.b2), Nat.ne_of_lt (blk_lt KL.out.b3)⟩); have GEa := Aside0.mk (show w.heap.size ≤ ga by rw [hga]; exact KL.out.bw.size); have Ba := Aside0.mk hbox; replace KL := Aside0.mk (KL.out.below hbb); replace R4 := Aside0.mk (Kd.R_below R4.out hbb); clear hbox hbb hga) | (clear S4; refine st26at (g := ga) rfl rfl rfl rfl rfl Ba.out rfl rfl (by first | rfl | (simp [Value.oneCell'])) ?_; intro w83 hh hk hb; replace KL := Aside0.mk (KS.far KL.out Ba.out hk NEa.out.1 NEa.out.2.1 NEa.out.2.2.1 NEa.out.2.2.2.1 NEa.out.2.2.2.2 (hb _ _ KL.out.bw GEa.out)); replace R4 := Aside0.mk (R_other' R4.out Ba.out hk); replace Ba := Aside0.mk hh; have a6 : w83.cell? ⟨ga, 6, none⟩ = some (.slice Ar4 l0_6.length cr4) := (by rw [Lib.cell_of_heap Ba.out]; rfl); have s6 : w83.cell? ⟨gs, 6, none⟩ = some (.slice A0_6 l0_6.length c0_6) := (by rw [Lib.cell_of_heap KL.out.bs]; rfl); have c0 : w83.cell? ⟨gx2, 0, none⟩ = some (.int .i64 a0_0) := (by rw [Lib.cell_of_heap KL.out.b2]; rfl); have c1 : w83.cell? ⟨gx2, 1, none⟩ = some (.int .i64 a0_1) := (by rw [Lib.cell_of_heap KL.out.b2]; rfl); have c2 : w83.cell? ⟨gx2, 2, none⟩ = some (.int .i64 a0_2) := (by rw [Lib.cell_of_heap KL.out.b2]; rfl); have c3 : w83.cell? ⟨gx2, 3, none⟩ = some (.int .i64 a0_3) := (by rw [Lib.cell_of_heap KL.out.b2]; rfl); have c4 : w83.cell? ⟨gx2, 4, none⟩ = some (.int .i64 a0_4) := (by rw [Lib.cell_of_heap KL.out.b2]; rfl); have c5 : w83.cell? ⟨gx2, 5, none⟩ = some (.int .i64 a0_5) := (by rw [Lib.cell_of_heap KL.out.b2]; rfl); have c6 : w83.cell? ⟨gx2, 6, none⟩ = some (.slice Ar2 L.length cr2) := (by rw [Lib.cell_of_heap KL.out.b2]; rfl); have d0 : w83.cell? ⟨gx3, 0, none⟩ = some (.int .i64 a0_0) := (by rw [Lib.cell_of_heap KL.out.b3]; rfl); have d1 : w83.cell? ⟨gx3, 1, none⟩ = some (.int .i64 a0_1) := (by rw [Lib.cell_of_heap KL.out.b3]; rfl); have d2 : w83.cell? ⟨gx3, 2, none⟩ = some (.int .i64 a0_2) := (by rw [Lib.cell_of_heap KL.out.b3]; rfl); have d3 : w83.cell? ⟨gx3, 3, none⟩ = some (.int .i64 a0_3) := (by rw [Lib.cell_of_heap KL.out.b3]; rfl); have d4 : w83.cell? ⟨gx3, 4, none⟩ = some (.int .i64 a0_4) := (by rw [Lib.cell_of_heap KL.out.b3]; rfl); have d5 : w83.cell? ⟨gx3, 5, none⟩ = some (.int .i64 a0_5) := (by rw [Lib.cell_of_heap KL.out.b3]; rfl); have d6 : w83.cell? ⟨gx3, 6, none⟩ = some (.slice Ar3 L.length cr3) := (by rw [Lib.cell_of_heap KL.out.b3]; rfl); clear hh hk hb) | (clear S5; go_at_call 25; refine (barrowref24_Equal.calls kE a0_0 a0_1 a0_2 a0_3 a0_4 a0_5 Ar2 cr2 L a0_0 a0_1 a0_2 a0_3 a0_4 a0_5 Ar3 cr3 L true _ (Kd.R_reads' KL.out.r2).2.2 (Kd.R_reads' KL.out.r2).2.1 (Kd.R_reads' KL.out.r3).2.2 (Kd.R_reads' KL.out.r3).2.1 HE.out).mono ?_; rintro e w84 ⟨rfl, hbb⟩; clear c0 c1 c2 c3 c4 c5 c6 d0 d1 d2 d3 d4 d5 d6; replace KL := Aside0.mk (KL.out.below hbb); clear a6 s6; replace Ba := Aside0.mk (blk_below Ba.out hbb); replace R4 := Aside0.mk (Kd.R_below R4.out hbb); have a6 : w84.cell? ⟨ga, 6, none⟩ = some (.slice Ar4 l0_6.length cr4) := (by rw [Lib.cell_of_heap Ba.out]; rfl); have s6 : w84.cell? ⟨gs, 6, none⟩ = some (.slice A0_6 l0_6.length c0_6) := (by rw [Lib.cell_of_heap KL.out.bs]; rfl); clear hbb) | go_in)
                  go_loopw [20] (fun v20 wr => ∃ (i : Nat), v20 = .int .i64 i ∧ i ≤ l0_6.length ∧ Aside0 (wr = w84)) (fun v20 _ => l0_6.length - toN v20)
                  case atStart => exact ⟨0, rfl, by omega, ⟨rfl⟩⟩
                  case round =>
                    obtain ⟨i, rfl, hi, hwr⟩ := hrel
                    have hwr := hwr.out
                    subst hwr
                    by_cases hit : i < l0_6.length
                    · have hp0 : (0 : Int) ≤ (i : Int) := by omega
                      have hp1 : (i : Int) < (l0_6.length : Int) := by omega
                      have hp2 : (i : Int) < (lO.length : Int) := by have := HLL.out; omega
                      have hp3 : decide ((i : Int) < (l0_6.length : Int)) = true := decide_eq_true hp1
                      have hwi := wrap_succ i (by have := HLL.out; omega)
                      have g4 : L2.getD i z29 = op15 i := by
                        rw [← HL2.out]
                        have := get15 [] hit
                        rwa [List.append_nil] at this
                      have gE : xE.getD i z29 = op15 i := by
                        rw [← HXE.out, ← HL2.out]
                        exact get15 _ hit
                      obtain ⟨gz, cz, ez, _, _, _⟩ := Kd.R_form R4.out (by rw [HL2l.out]; omega)
                      injection ez with ez1 ez2 ez3
                      subst ez1
                      obtain ⟨ce_ho, hcl_ho, hM_ho, hcc_ho, hfr_ho⟩ := Kd.R_elem R4.out z29 (i : Int) (by omega) (by have := HLL.out; omega)
                      obtain rfl := k29_openM hM_ho
                      have ho0 := hcc_ho 0 _ rfl
                      simp only [Int.toNat_natCast, show k29.sz = 7 from rfl, Nat.add_zero] at ho0
                      have ho1 := hcc_ho 1 _ rfl
                      simp only [Int.toNat_natCast, show k29.sz = 7 from rfl, Nat.add_zero] at ho1
                      have ho2 := hcc_ho 2 _ rfl
                      simp only [Int.toNat_natCast, show k29.sz = 7 from rfl, Nat.add_zero] at ho2
                      have ho3 := hcc_ho 3 _ rfl
                      simp only [Int.toNat_natCast, show k29.sz = 7 from rfl, Nat.add_zero] at ho3
                      have ho4 := hcc_ho 4 _ rfl
                      simp only [Int.toNat_natCast, show k29.sz = 7 from rfl, Nat.add_zero] at ho4
                      have ho5 := hcc_ho 5 _ rfl
                      simp only [Int.toNat_natCast, show k29.sz = 7 from rfl, Nat.add_zero] at ho5
                      have ho6 := hcc_ho 6 _ rfl
                      simp only [Int.toNat_natCast, show k29.sz = 7 from rfl, Nat.add_zero] at ho6
                      clear hcl_ho hM_ho hcc_ho
                      simp only [g4, op15, opN] at ho0 ho1 ho2 ho3 ho4 ho5 ho6
                      clear hfr_ho
                      obtain ⟨ce_hw, hcl_hw, hM_hw, hcc_hw, hfr_hw⟩ := Kd.R_elem KL.out.rO z29 (i : Int) (by omega) (by have := HLL.out; omega)
                      obtain rfl := k29_openM hM_hw
                      have hw0 := hcc_hw 0 _ rfl
                      simp only [Int.toNat_natCast, show k29.sz = 7 from rfl, Nat.add_zero] at hw0
                      have hw1 := hcc_hw 1 _ rfl
                      simp only [Int.toNat_natCast, show k29.sz = 7 from rfl, Nat.add_zero] at hw1
                      have hw2 := hcc_hw 2 _ rfl
                      simp only [Int.toNat_natCast, show k29.sz = 7 from rfl, Nat.add_zero] at hw2
                      have hw3 := hcc_hw 3 _ rfl
                      simp only [Int.toNat_natCast, show k29.sz = 7 from rfl, Nat.add_zero] at hw3
                      have hw4 := hcc_hw 4 _ rfl
                      simp only [Int.toNat_natCast, show k29.sz = 7 from rfl, Nat.add_zero] at hw4
                      have hw5 := hcc_hw 5 _ rfl
                      simp only [Int.toNat_natCast, show k29.sz = 7 from rfl, Nat.add_zero] at hw5
                      have hw6 := hcc_hw 6 _ rfl
                      simp only [Int.toNat_natCast, show k29.sz = 7 from rfl, Nat.add_zero] at hw6
                      clear hcl_hw hM_hw hcc_hw
                      simp only [gE, op15, opN] at hw0 hw1 hw2 hw3 hw4 hw5 hw6
                      clear hfr_hw
                      clear g4 gE ez2 ez3
                      go_wp2
                      go_roundw
                      case rel => exact ⟨i + 1, by rw [hwi], hit, by first | exact ⟨rfl⟩ | exact ⟨trivial⟩⟩
                      case measure => exact meas_step hit hwi
                    · obtain rfl : i = l0_6.length := by omega
                      clear hi a6
                      obtain ⟨n1, hn1⟩ : ∃ n1 : Nat, n1 = l0_6.length + 1 := ⟨_, rfl⟩
                      have q0 : (0 : Int) ≤ (l0_6.length : Int) := by omega
                      have q1 : (l0_6.length : Int) < (lO.length : Int) := by have := HLL.out; omega
                      have q2 : (0 : Int) ≤ (n1 : Int) := by omega
                      have q3 : (n1 : Int) < (lO.length : Int) := by have := HLL.out; omega
                      have hw1 : wrap64 ((l0_6.length : Int) + 1) = (n1 : Int) := by rw [w64 (by have := HLL.out; omega) (by have := HLL.out; omega)]; omega
                      have hw2 : IntKind.i64.wrap ((l0_6.length : Int) + 1) = (n1 : Int) := by simp only [i64_w]; exact hw1
                      have x5 : xE.getD l0_6.length z29 = opN (-5) := by
                        rw [← HXE.out, ← HL2l.out, List.getD_eq_getElem?_getD, List.getElem?_append_right (Nat.le_refl _), Nat.sub_self]; rfl
                      have x6 : xE.getD n1 z29 = opN (-6) := by
                        rw [← HXE.out, hn1, ← HL2l.out, List.getD_eq_getElem?_getD, List.getElem?_append_right (by omega), Nat.add_sub_cancel_left]; rfl
                      have y5 : lO.getD l0_6.length z29 = opN (-5) := by
                        rw [← HLO.out, List.getD_eq_getElem?_getD, List.getElem?_append_right (Nat.le_refl _), Nat.sub_self]; rfl
                      have y6 : lO.getD n1 z29 = opN (-6) := by
                        rw [← HLO.out, hn1, List.getD_eq_getElem?_getD, List.getElem?_append_right (by omega), Nat.add_sub_cancel_left]; rfl
                      obtain ⟨ce_ho, hcl_ho, hM_ho, hcc_ho, hfr_ho⟩ := Kd.R_elem KL.out.rO z29 (l0_6.length : Int) (by omega) (by have := HLL.out; omega)
                      obtain rfl := k29_openM hM_ho
                      have ho0 := hcc_ho 0 _ rfl
                      simp only [Int.toNat_natCast, show k29.sz = 7 from rfl, Nat.add_zero] at ho0
                      have ho1 := hcc_ho 1 _ rfl
                      simp only [Int.toNat_natCast, show k29.sz = 7 from rfl, Nat.add_zero] at ho1
                      have ho2 := hcc_ho 2 _ rfl
                      simp only [Int.toNat_natCast, show k29.sz = 7 from rfl, Nat.add_zero] at ho2
                      have ho3 := hcc_ho 3 _ rfl
                      simp only [Int.toNat_natCast, show k29.sz = 7 from rfl, Nat.add_zero] at ho3
                      have ho4 := hcc_ho 4 _ rfl
                      simp only [Int.toNat_natCast, show k29.sz = 7 from rfl, Nat.add_zero] at ho4
                      have ho5 := hcc_ho 5 _ rfl
                      simp only [Int.toNat_natCast, show k29.sz = 7 from rfl, Nat.add_zero] at ho5
                      have ho6 := hcc_ho 6 _ rfl
                      simp only [Int.toNat_natCast, show k29.sz = 7 from rfl, Nat.add_zero] at ho6
                      clear hcl_ho hM_ho hcc_ho
                      simp only [x5, op15, opN] at ho0 ho1 ho2 ho3 ho4 ho5 ho6
                      clear hfr_ho
                      obtain ⟨ce_hw, hcl_hw, hM_hw, hcc_hw, hfr_hw⟩ := Kd.R_elem KL.out.rW z29 (l0_6.length : Int) (by omega) (by have := HLL.out; omega)
                      obtain rfl := k29_openM hM_hw
                      have hw0 := hcc_hw 0 _ rfl
                      simp only [Int.toNat_natCast, show k29.sz = 7 from rfl, Nat.add_zero] at hw0
                      have hw1 := hcc_hw 1 _ rfl
                      simp only [Int.toNat_natCast, show k29.sz = 7 from rfl, Nat.add_zero] at hw1
                      have hw2 := hcc_hw 2 _ rfl
                      simp only [Int.toNat_natCast, show k29.sz = 7 from rfl, Nat.add_zero] at hw2
                      have hw3 := hcc_hw 3 _ rfl
                      simp only [Int.toNat_natCast, show k29.sz = 7 from rfl, Nat.add_zero] at hw3
                      have hw4 := hcc_hw 4 _ rfl
                      simp only [Int.toNat_natCast, show k29.sz = 7 from rfl, Nat.add_zero] at hw4
                      have hw5 := hcc_hw 5 _ rfl
                      simp only [Int.toNat_natCast, show k29.sz = 7 from rfl, Nat.add_zero] at hw5
                      have hw6 := hcc_hw 6 _ rfl
                      simp only [Int.toNat_natCast, show k29.sz = 7 from rfl, Nat.add_zero] at hw6
                      clear hcl_hw hM_hw hcc_hw
                      simp only [y5, op15, opN] at hw0 hw1 hw2 hw3 hw4 hw5 hw6
                      clear hfr_hw
                      obtain ⟨ce_hu, hcl_hu, hM_hu, hcc_hu, hfr_hu⟩ := Kd.R_elem KL.out.rO z29 (n1 : Int) (by omega) (by have := HLL.out; omega)
                      obtain rfl := k29_openM hM_hu
                      have hu0 := hcc_hu 0 _ rfl
                      simp only [Int.toNat_natCast, show k29.sz = 7 from rfl, Nat.add_zero] at hu0
                      have hu1 := hcc_hu 1 _ rfl
                      simp only [Int.toNat_natCast, show k29.sz = 7 from rfl, Nat.add_zero] at hu1
                      have hu2 := hcc_hu 2 _ rfl
                      simp only [Int.toNat_natCast, show k29.sz = 7 from rfl, Nat.add_zero] at hu2
                      have hu3 := hcc_hu 3 _ rfl
                      simp only [Int.toNat_natCast, show k29.sz = 7 from rfl, Nat.add_zero] at hu3
                      have hu4 := hcc_hu 4 _ rfl
                      simp only [Int.toNat_natCast, show k29.sz = 7 from rfl, Nat.add_zero] at hu4
                      have hu5 := hcc_hu 5 _ rfl
                      simp only [Int.toNat_natCast, show k29.sz = 7 from rfl, Nat.add_zero] at hu5
                      have hu6 := hcc_hu 6 _ rfl
                      simp only [Int.toNat_natCast, show k29.sz = 7 from rfl, Nat.add_zero] at hu6
                      clear hcl_hu hM_hu hcc_hu
                      simp only [x6, op15, opN] at hu0 hu1 hu2 hu3 hu4 hu5 hu6
                      clear hfr_hu
                      obtain ⟨ce_hv, hcl_hv, hM_hv, hcc_hv, hfr_hv⟩ := Kd.R_elem KL.out.rW z29 (n1 : Int) (by omega) (by have := HLL.out; omega)
                      obtain rfl := k29_openM hM_hv
                      have hv0 := hcc_hv 0 _ rfl
                      simp only [Int.toNat_natCast, show k29.sz = 7 from rfl, Nat.add_zero] at hv0
                      have hv1 := hcc_hv 1 _ rfl
                      simp only [Int.toNat_natCast, show k29.sz = 7 from rfl, Nat.add_zero] at hv1
                      have hv2 := hcc_hv 2 _ rfl
                      simp only [Int.toNat_natCast, show k29.sz = 7 from rfl, Nat.add_zero] at hv2
                      have hv3 := hcc_hv 3 _ rfl
                      simp only [Int.toNat_natCast, show k29.sz = 7 from rfl, Nat.add_zero] at hv3
                      have hv4 := hcc_hv 4 _ rfl
                      simp only [Int.toNat_natCast, show k29.sz = 7 from rfl, Nat.add_zero] at hv4
                      have hv5 := hcc_hv 5 _ rfl
                      simp only [Int.toNat_natCast, show k29.sz = 7 from rfl, Nat.add_zero] at hv5
                      have hv6 := hcc_hv 6 _ rfl
                      simp only [Int.toNat_natCast, show k29.sz = 7 from rfl, Nat.add_zero] at hv6
                      clear hcl_hv hM_hv hcc_hv
                      simp only [y6, op15, opN] at hv0 hv1 hv2 hv3 hv4 hv5 hv6
                      clear hfr_hv
                      clear x5 x6 y5 y6 hn1
                      go_wp2
                      go_region_held3 (fun w' => w'.cell? ⟨gs, 6, none⟩ = some (.slice A0_6 l0_6.length c0_6) ∧ w'.cell? ⟨go, l0_6.length * 7, none⟩ = some (.int .i64 (-5)) ∧ w'.cell? ⟨go, l0_6.length * 7 + 1, none⟩ = some (.int .i64 0) ∧ w'.cell? ⟨go, l0_6.length * 7 + 2, none⟩ = some (.int .i64 0) ∧ w'.cell? ⟨go, l0_6.length * 7 + 3, none⟩ = some (.int .i64 0) ∧ w'.cell? ⟨go, l0_6.length * 7 + 4, none⟩ = some (.string ⟨#[]⟩) ∧ w'.cell? ⟨go, l0_6.length * 7 + 5, none⟩ = some (.int .i64 0) ∧ w'.cell? ⟨go, l0_6.length * 7 + 6, none⟩ = some (.int .i64 0) ∧ w'.cell? ⟨gW, l0_6.length * 7, none⟩ = some (.int .i64 (-5)) ∧ w'.cell? ⟨gW, l0_6.length * 7 + 1, none⟩ = some (.int .i64 0) ∧ w'.cell? ⟨gW, l0_6.length * 7 + 2, none⟩ = some (.int .i64 0) ∧ w'.cell? ⟨gW, l0_6.length * 7 + 3, none⟩ = some (.int .i64 0) ∧ w'.cell? ⟨gW, l0_6.length * 7 + 4, none⟩ = some (.string ⟨#[]⟩) ∧ w'.cell? ⟨gW, l0_6.length * 7 + 5, none⟩ = some (.int .i64 0) ∧ w'.cell? ⟨gW, l0_6.length * 7 + 6, none⟩ = some (.int .i64 0) ∧ w'.cell? ⟨go, n1 * 7, none⟩ = some (.int .i64 (-6)) ∧ w'.cell? ⟨go, n1 * 7 + 1, none⟩ = some (.int .i64 0) ∧ w'.cell? ⟨go, n1 * 7 + 2, none⟩ = some (.int .i64 0) ∧ w'.cell? ⟨go, n1 * 7 + 3, none⟩ = some (.int .i64 0) ∧ w'.cell? ⟨go, n1 * 7 + 4, none⟩ = some (.string ⟨#[]⟩) ∧ w'.cell? ⟨go, n1 * 7 + 5, none⟩ = some (.int .i64 0) ∧ w'.cell? ⟨go, n1 * 7 + 6, none⟩ = some (.int .i64 0) ∧ w'.cell? ⟨gW, n1 * 7, none⟩ = some (.int .i64 (-6)) ∧ w'.cell? ⟨gW, n1 * 7 + 1, none⟩ = some (.int .i64 0) ∧ w'.cell? ⟨gW, n1 * 7 + 2, none⟩ = some (.int .i64 0) ∧ w'.cell? ⟨gW, n1 * 7 + 3, none⟩ = some (.int .i64 0) ∧ w'.cell? ⟨gW, n1 * 7 + 4, none⟩ = some (.string ⟨#[]⟩) ∧ w'.cell? ⟨gW, n1 * 7 + 5, none⟩ = some (.int .i64 0) ∧ w'.cell? ⟨gW, n1 * 7 + 6, none⟩ = some (.int .i64 0)) (go_keep) (fail)
                      rename_i hHld
                      clear hHld
                      go_wp2
                      go_ret
                      exact ⟨rfl, KL.out.drew.bw⟩
end Go.Proofs.YtlmdhpfggobogaaDoor.G
