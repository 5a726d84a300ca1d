import Derived.Test.YtlmdhpfggobogaaDoorQSg27
import Derived.Test.YtlmdhpfggobogaaDoorQSg28
import Derived.Test.YtlmdhpfggobogaaDoorQSg6
import Derived.Test.YtlmdhpfggobogaaDoorQSg26
import Derived.Test.YtlmdhpfggobogaaDoorQSg23
import Derived.Test.YtlmdhpfggobogaaDoorQSg24
namespace Go.Proofs.YtlmdhpfggobogaaDoor.Pure
open Go.Proofs.YtlmdhpfggobogaaDoor.G hiding bytesOf_length
open Go.RowKit Go.Proofs.YtlmdhpfggobogaaDoorW.PrintWords Go.Proofs.YtlmdhpfggobogaaDoorW.PrintLast
set_option linter.unusedVariables false
abbrev PT := Int × Int × Int × Int × Int × Int × List S29 × Int × Int
def badP (n : Int) : PT := (0, 0, 0, 0, 0, 0, [], n, 17)
def goodP (h : S23) (ops : List S29) : PT := (h.f0, h.f1, h.f2, h.f3, h.f4, h.f5, ops, 0, 0)
def opOf (r : Int × Int × Int × Int × ByteArray × Int × Int × Bool) : S29 := ⟨r.1, r.2.1, r.2.2.1, r.2.2.2.1, r.2.2.2.2.1, r.2.2.2.2.2.1, r.2.2.2.2.2.2.1⟩
def hdOf (r : Int × Int × Int × Int × Int × Int × Bool) : S23 := ⟨r.1, r.2.1, r.2.2.1, r.2.2.2.1, r.2.2.2.2.1, r.2.2.2.2.2.1⟩
def lineP (b : Bool) (h : S23) (ops : List S29) (l : List Int) : Option (Bool × S23 × List S29) :=
  if silI l = true then some (b, h, ops) else match run false l .gap [] with
    | some (w :: ws) =>
      if b = true then (if (stepP (strOfNums w) (ws.map strOfNums)).2.2.2.2.2.2.2 = true then some (true, h, ops ++ [opOf (stepP (strOfNums w) (ws.map strOfNums))]) else none)
      else (if (headN (strOfNums w) (ws.map strOfNums)).2.2.2.2.2.2 = true then some (true, hdOf (headN (strOfNums w) (ws.map strOfNums)), ops) else none)
    | _ => none
def parsC : List (List Int) → Nat → Bool → S23 → List S29 → PT
  | [], i, b, h, ops => if b = true then goodP h ops else badP ((i + 1 : Nat) : Int)
  | l :: t, i, b, h, ops => match lineP b h ops l with
    | some r => parsC t (i + 1) r.1 r.2.1 r.2.2
    | none => badP ((i + 1 : Nat) : Int)
def linesT : List Int → List Int → List (List Int)
  | cur, [] => if cur = [] then [] else [cur]
  | cur, c :: t => if c = 10 then cur :: linesT [] t else linesT (cur ++ [c]) t
def trimL (ls : List (List Int)) : List (List Int) := if ls.getLast? = some [] then ls.dropLast else ls
theorem linesA_ne : ∀ (l cur : List Int), linesA cur l ≠ []
  | [], cur => by simp [linesA]
  | c :: t, cur => by
    unfold linesA
    split
    · simp
    · exact linesA_ne t _
theorem trim_lines : ∀ (l cur : List Int), trimL (linesA cur l) = linesT cur l
  | [], cur => by
    unfold linesA linesT trimL
    by_cases h : cur = []
    · rw [if_pos h, h]; rfl
    · rw [if_neg h, if_neg (by simpa using h)]
  | c :: t, cur => by
    unfold linesA linesT
    by_cases h : c = 10
    · rw [if_pos h, if_pos h, ← trim_lines t []]
      have hne := linesA_ne t []
      unfold trimL
      rw [List.getLast?_cons_of_ne_nil hne, List.dropLast_cons_of_ne_nil hne]
      split <;> rfl
    · rw [if_neg h, if_neg h]
      exact trim_lines t _
theorem readH_N (i : Nat) : ∀ (xs : List ByteArray) (h : S23), (∀ y ∈ xs, y.size ≤ 8796093022208) → readH i xs h = some (readN i xs h)
  | [], h, _ => rfl
  | x :: xs, h, hx => by
    have h1 := hx x (by simp)
    have hn : script_readNumber.f x = some (rdNum x) := by unfold script_readNumber.f; rw [if_pos (by omega)]
    unfold readH readN numR
    rw [hn, Option.bind_some]
    by_cases hr : (rdNum x).2 = true
    · rw [if_pos hr, if_pos hr]
      exact readH_N (i + 1) xs _ (fun y hy => hx y (by simp [hy]))
    · rw [if_neg hr, if_neg hr]
theorem head_P (x : ByteArray) (xs : List ByteArray) (hl : xs.length < 4611686018427387903) (hx : ∀ y ∈ xs, y.size ≤ 8796093022208) : script_head.f (x :: xs) = some (headN x xs) := by
  show headC x xs = _
  unfold headC headN
  rw [if_pos (by rw [List.length_cons]; omega), readH_N 0 xs zeroH hx]
  by_cases h1 : (x.toList == storeB.toList) = true
  · rw [if_pos h1, if_pos h1]
    split <;> rfl
  · rw [if_neg h1, if_neg h1, ite_self]
theorem parse_l0 (Ls : List ByteArray) (hLs : Ls.length < 1099511627776) (hsz : ∀ s ∈ Ls, s.size < 8796093022208) : ∀ (d i : Nat) (b : Bool) (h : S23) (ops : List S29), i + d = Ls.length → ops.length ≤ i →
    Ev (fun k => script_Parse.l0 k b Ls Ls (Ls.length : Int) i h.f0 h.f1 h.f2 h.f3 h.f4 h.f5 ops) (parsC ((Ls.drop i).map bytesOf) i b h ops)
  | 0, i, b, h, ops, hd, ho => by
    rw [List.drop_eq_nil_of_le (by omega)]
    refine Ev.step (f := fun _ => some (if b = true then goodP h ops else badP ((i + 1 : Nat) : Int))) (fun k => ?_) (Ev.now _)
    simp only [script_Parse.l0]
    rw [if_neg (by omega), show (Ls.length : Int) = (i : Int) by omega, w64_nat i (by omega)]
    split <;> rfl
  | d + 1, i, b, h, ops, hd, ho => by
    have hi : i < Ls.length := by omega
    have hrd : rdOf ByteArray.empty Ls (i : Int) = Ls[i] := by
      unfold rdOf
      rw [Int.toNat_natCast, List.getD_eq_getElem?_getD, List.getElem?_eq_getElem hi]; rfl
    have hs := hsz Ls[i] (List.getElem_mem hi)
    rw [List.drop_eq_getElem_cons hi, List.map_cons]
    generalize Ls[i] = s at hrd hs
    have hwn := w64_nat i (by omega)
    have next : ∀ (b' : Bool) (h' : S23) (ops' : List S29), ops'.length ≤ i + 1 → Ev (fun k => script_Parse.l0 k b' Ls Ls (Ls.length : Int) ((i + 1 : Nat) : Int) h'.f0 h'.f1 h'.f2 h'.f3 h'.f4 h'.f5 ops') (parsC ((Ls.drop (i + 1)).map bytesOf) (i + 1) b' h' ops') :=
      fun b' h' ops' ho' => parse_l0 Ls hLs hsz d (i + 1) b' h' ops' (by omega) ho'
    obtain ⟨L, hL⟩ := words_said s hs
    have st : ∀ k, script_Parse.l0 (k + 1) b Ls Ls (Ls.length : Int) i h.f0 h.f1 h.f2 h.f3 h.f4 h.f5 ops = (script_words.f k s).bind fun bt111 => (if bt111.2 = true then (script_Parse.j2 k b Ls i bt111.1 bt111.2 Ls (Ls.length : Int) i ((bt111.1.length : Int) == 0) h.f0 h.f1 h.f2 h.f3 h.f4 h.f5 ops) else (script_Parse.j2 k b Ls i bt111.1 bt111.2 Ls (Ls.length : Int) i false h.f0 h.f1 h.f2 h.f3 h.f4 h.f5 ops)) := by
      intro k
      simp only [script_Parse.l0]
      rw [if_pos (by omega), if_pos (by omega), if_pos (by omega), hrd]
    refine Ev.step st ?_
    refine Ev.bind hL ?_
    unfold parsC lineP
    by_cases hsil : silI (bytesOf s) = true
    · rw [if_pos hsil, run_silent _ hsil]
      refine Ev.congr (f := fun k => script_Parse.j2 k b Ls i [] true Ls (Ls.length : Int) i true h.f0 h.f1 h.f2 h.f3 h.f4 h.f5 ops) (fun k => by rw [if_pos rfl]; rfl) ?_
      refine Ev.step (fun k => ?_) (next b h ops (by omega))
      simp only [script_Parse.j2]
      rw [if_pos trivial, hwn]
    · rw [if_neg hsil]
      obtain ⟨e1, e2⟩ := run_loud (bytesOf s) (by simpa using hsil)
      rw [e1]
      have bad : ∀ (M : List ByteArray), Ev (fun k => script_Parse.j3 k b Ls i M false Ls (Ls.length : Int) i false h.f0 h.f1 h.f2 h.f3 h.f4 h.f5 ops) (badP ((i + 1 : Nat) : Int)) := by
        intro M
        refine Ev.step (f := fun _ => some (badP ((i + 1 : Nat) : Int))) (fun k => ?_) (Ev.now _)
        simp only [script_Parse.j3]
        rw [if_neg (by decide), if_neg (by decide), hwn]
        rfl
      cases hrun : run false (bytesOf s) .gap [] with
      | none =>
        refine Ev.congr (f := fun k => script_Parse.j2 k b Ls i L false Ls (Ls.length : Int) i false h.f0 h.f1 h.f2 h.f3 h.f4 h.f5 ops) (fun k => by rw [if_neg Bool.false_ne_true]) ?_
        refine Ev.step (fun k => ?_) (bad L)
        simp only [script_Parse.j2]
        rw [if_neg (by decide), if_neg (by decide)]
      | some r =>
        cases r with
        | nil => exact absurd rfl (e2 [] hrun)
        | cons w ws =>
          obtain ⟨b1, b2⟩ := words_small s hs hrun
          refine Ev.congr (f := fun k => script_Parse.j2 k b Ls i (strOfNums w :: ws.map strOfNums) true Ls (Ls.length : Int) i false h.f0 h.f1 h.f2 h.f3 h.f4 h.f5 ops) (fun k => ?_) ?_
          · show (if true = true then _ else _) = _
            rw [if_pos rfl]
            show script_Parse.j2 k b Ls i (strOfNums w :: ws.map strOfNums) true Ls (Ls.length : Int) i (((strOfNums w :: ws.map strOfNums).length : Int) == 0) _ _ _ _ _ _ _ = _
            rw [show (((strOfNums w :: ws.map strOfNums).length : Int) == 0) = false from by rw [beq_eq_false_iff_ne, List.length_cons]; omega]
          · refine Ev.step (f := fun k => script_Parse.j3 k b Ls i (strOfNums w :: ws.map strOfNums) true Ls (Ls.length : Int) i (!b) h.f0 h.f1 h.f2 h.f3 h.f4 h.f5 ops) (fun k => by simp only [script_Parse.j2]; rw [if_neg (by decide), if_pos trivial]) ?_
            cases b with
            | false =>
              dsimp only
              rw [if_neg (by decide)]
              have hh := head_P (strOfNums w) (ws.map strOfNums) b1 b2
              have st3 : ∀ k, script_Parse.j3 (k + 1) false Ls i (strOfNums w :: ws.map strOfNums) true Ls (Ls.length : Int) i (!false) h.f0 h.f1 h.f2 h.f3 h.f4 h.f5 ops = (if (headN (strOfNums w) (ws.map strOfNums)).2.2.2.2.2.2 = true then script_Parse.l0 k true Ls Ls (Ls.length : Int) ((i + 1 : Nat) : Int) (headN (strOfNums w) (ws.map strOfNums)).1 (headN (strOfNums w) (ws.map strOfNums)).2.1 (headN (strOfNums w) (ws.map strOfNums)).2.2.1 (headN (strOfNums w) (ws.map strOfNums)).2.2.2.1 (headN (strOfNums w) (ws.map strOfNums)).2.2.2.2.1 (headN (strOfNums w) (ws.map strOfNums)).2.2.2.2.2.1 ops else some (badP ((i + 1 : Nat) : Int))) := by
                intro k
                simp only [script_Parse.j3]
                rw [if_pos (by decide), hh, Option.bind_some, hwn]
                rfl
              refine Ev.step st3 ?_
              generalize headN (strOfNums w) (ws.map strOfNums) = r
              by_cases hr : r.2.2.2.2.2.2 = true
              · rw [if_pos hr]
                exact Ev.congr (fun k => if_pos hr) (next true (hdOf r) ops (by omega))
              · rw [if_neg hr]
                exact Ev.congr (fun k => if_neg hr) (Ev.now _)
            | true =>
              dsimp only
              rw [if_pos rfl]
              have hst := step_P (strOfNums w) (ws.map strOfNums) b1 b2
              have st3 : ∀ k, script_Parse.j3 (k + 1) true Ls i (strOfNums w :: ws.map strOfNums) true Ls (Ls.length : Int) i (!true) h.f0 h.f1 h.f2 h.f3 h.f4 h.f5 ops = (script_step.f k (strOfNums w :: ws.map strOfNums)).bind fun bt123 => (if bt123.2.2.2.2.2.2.2 = true then script_Parse.l0 k true Ls Ls (Ls.length : Int) ((i + 1 : Nat) : Int) h.f0 h.f1 h.f2 h.f3 h.f4 h.f5 (ops ++ [opOf bt123]) else some (badP ((i + 1 : Nat) : Int))) := by
                intro k
                simp only [script_Parse.j3]
                rw [if_neg (by decide), if_pos trivial, hwn]
                congr 1
                funext bt123
                rw [if_pos (by omega)]
                rfl
              refine Ev.step st3 (Ev.bind hst ?_)
              generalize stepP (strOfNums w) (ws.map strOfNums) = r
              by_cases hr : r.2.2.2.2.2.2.2 = true
              · rw [if_pos hr]
                exact Ev.congr (fun k => if_pos hr) (next true h (ops ++ [opOf r]) (by rw [List.length_append, List.length_singleton]; omega))
              · rw [if_neg hr]
                exact Ev.congr (fun k => if_neg hr) (Ev.now _)
def parsP (s : ByteArray) : PT := parsC (linesT [] (bytesOf s)) 0 false zeroH []
theorem linesA_size (B : Nat) : ∀ (l cur : List Int), cur.length + l.length ≤ B → ∀ u ∈ linesA cur l, u.length ≤ B
  | [], cur, h, u, hu => by simp [linesA] at hu; subst hu; simpa using h
  | c :: t, cur, h, u, hu => by
    unfold linesA at hu
    rw [List.length_cons] at h
    split at hu
    · rcases List.mem_cons.1 hu with e | e
      · subst e; omega
      · exact linesA_size B t [] (by simp; omega) u e
    · exact linesA_size B t _ (by simp; omega) u hu
theorem linesA_len : ∀ (l cur : List Int), (linesA cur l).length ≤ l.length + 1
  | [], cur => by simp [linesA]
  | c :: t, cur => by
    unfold linesA
    split
    · have := linesA_len t []; simp; omega
    · have := linesA_len t (cur ++ [c]); simp; omega
theorem parse_P (s : ByteArray) (hs : s.size ≤ 1000000000) : Ev (fun k => script_Parse.f k s) (parsP s) := by
  unfold script_Parse.f
  obtain ⟨Ls, hLs⟩ : ∃ Ls, Lib.splitB nl 0 (Lib.countB s nl) s = Ls := ⟨_, rfl⟩
  have hsp : strings_Split.f s (⟨#[10]⟩ : ByteArray) = some Ls := by
    unfold strings_Split.f
    rw [if_pos ⟨by omega, by decide⟩]
    exact congrArg some hLs
  have hmap : Ls.map bytesOf = linesA [] (bytesOf s) := by rw [← hLs]; exact split_lines _ s (Nat.le_refl _)
  have hne : Ls ≠ [] := by
    intro e
    rw [e] at hmap
    exact linesA_ne _ _ hmap.symm
  have hlen : Ls.length ≤ s.size + 1 := by
    have := congrArg List.length hmap
    rw [List.length_map] at this
    have h2 := linesA_len (bytesOf s) []
    rw [G.bytesOf_length] at h2
    omega
  have hszs : ∀ u ∈ Ls, u.size < 8796093022208 := by
    intro u hu
    have h1 := linesA_size s.size (bytesOf s) [] (by rw [G.bytesOf_length]; simp) (bytesOf u) (by rw [← hmap]; exact List.mem_map.2 ⟨u, hu, rfl⟩)
    rw [G.bytesOf_length] at h1
    omega
  have hpos : 0 < Ls.length := List.length_pos_iff.2 hne
  have hw : wrap64 ((Ls.length : Int) - 1) = ((Ls.length - 1 : Nat) : Int) := by rw [w64 (by omega) (by omega)]; omega
  have hlast : rdOf ByteArray.empty Ls ((Ls.length - 1 : Nat) : Int) = Ls.getLast hne := by
    unfold rdOf
    rw [Int.toNat_natCast, List.getD_eq_getElem?_getD, List.getElem?_eq_getElem (by omega), List.getLast_eq_getElem]; rfl
  have htrim := trim_lines (bytesOf s) []
  rw [← hmap] at htrim
  have hgl : (Ls.map bytesOf).getLast? = some (bytesOf (Ls.getLast hne)) := by
    rw [List.getLast?_map, List.getLast?_eq_some_getLast hne]; rfl
  have go : ∀ Ms : List ByteArray, Ms.length ≤ Ls.length → (∀ u ∈ Ms, u ∈ Ls) → Ms.map bytesOf = linesT [] (bytesOf s) → Ev (fun k => script_Parse.j0 k false Ms 0 0 0 0 0 0) (parsP s) := by
    intro Ms h1 h2 h3
    have := parse_l0 Ms (by omega) (fun u hu => hszs u (h2 u hu)) Ms.length 0 false zeroH [] (by omega) (by simp)
    rw [List.drop_zero, h3] at this
    refine Ev.step (fun k => ?_) this
    simp only [script_Parse.j0]
    rfl
  have pre : ∀ k, ((strings_Split.f s (⟨#[10]⟩ : ByteArray)).bind fun t103 => (if 0 ≤ (wrap64 ((t103.length : Int) - 1)) then (if (wrap64 ((t103.length : Int) - 1)) < (t103.length : Int) then (if (rdOf ByteArray.empty t103 (wrap64 ((t103.length : Int) - 1))).toList = ([] : List UInt8) then (if (wrap64 ((t103.length : Int) - 1)) ≤ (t103.length : Int) then (script_Parse.j0 k false (t103.take ((wrap64 ((t103.length : Int) - 1)) : Int).toNat) 0 0 0 0 0 0) else (none)) else (script_Parse.j0 k false t103 0 0 0 0 0 0)) else (none)) else (none))) = (if (Ls.getLast hne).toList = ([] : List UInt8) then (script_Parse.j0 k false (Ls.take (Ls.length - 1)) 0 0 0 0 0 0) else (script_Parse.j0 k false Ls 0 0 0 0 0 0)) := by
    intro k
    rw [hsp, Option.bind_some, hw, if_pos (by omega), if_pos (by omega), hlast, if_pos (show ((Ls.length - 1 : Nat) : Int) ≤ (Ls.length : Int) by omega), Int.toNat_natCast]
  refine Ev.congr pre ?_
  have hemp : (Ls.getLast hne).toList = ([] : List UInt8) ↔ bytesOf (Ls.getLast hne) = [] := by
    rw [ByteArray.toList_eq]
    unfold bytesOf
    rw [List.map_eq_nil_iff]
  by_cases he : (Ls.getLast hne).toList = ([] : List UInt8)
  · refine Ev.congr (fun k => if_pos he) ?_
    have hb := hemp.1 he
    unfold trimL at htrim
    rw [hgl, hb, if_pos rfl] at htrim
    refine go _ (by rw [List.length_take]; omega) (fun u hu => List.mem_of_mem_take hu) ?_
    rw [← htrim, List.dropLast_eq_take, List.length_map, List.map_take]
  · refine Ev.congr (fun k => if_neg he) ?_
    unfold trimL at htrim
    rw [hgl, if_neg (fun e => he (hemp.2 (Option.some.inj e)))] at htrim
    exact go Ls (Nat.le_refl _) (fun u hu => hu) htrim
end Go.Proofs.YtlmdhpfggobogaaDoor.Pure

namespace Go.Proofs.YtlmdhpfggobogaaDoor.Pure
open Go.Proofs.YtlmdhpfggobogaaDoor.G hiding bytesOf_length
open Go.RowKit Go.Proofs.YtlmdhpfggobogaaDoorW.PrintWords Go.Proofs.YtlmdhpfggobogaaDoorW.PrintLast
set_option linter.unusedVariables false
end Go.Proofs.YtlmdhpfggobogaaDoor.Pure

namespace Go.Proofs.YtlmdhpfggobogaaDoor.Pure
open Go.Proofs.YtlmdhpfggobogaaDoor.G hiding bytesOf_length
open Go.RowKit Go.Proofs.YtlmdhpfggobogaaDoorW.PrintWords Go.Proofs.YtlmdhpfggobogaaDoorW.PrintLast
set_option linter.unusedVariables false
theorem Ev.one {α : Type} {g : Nat → Option α} {a b : α} (h1 : Ev g a) (h2 : Ev g b) : a = b := by
  obtain ⟨K1, h1⟩ := h1
  obtain ⟨K2, h2⟩ := h2
  have e1 := h1 (max K1 K2) (Nat.le_max_left _ _)
  have e2 := h2 (max K1 K2) (Nat.le_max_right _ _)
  rw [e1] at e2
  exact Option.some.inj e2
theorem linesT_app : ∀ (L cur t : List Int), 10 ∉ L → linesT cur (L ++ 10 :: t) = (cur ++ L) :: linesT [] t
  | [], cur, t, _ => by
    show linesT cur (10 :: t) = _
    rw [linesT, if_pos rfl, List.append_nil]
  | c :: L, cur, t, h => by
    have hc : ¬ c = 10 := fun e => h (by rw [e]; simp)
    show linesT cur (c :: (L ++ 10 :: t)) = _
    rw [linesT, if_neg hc, linesT_app L (cur ++ [c]) t (fun hm => h (by simp [hm]))]
    simp
theorem linesT_end : ∀ (L cur : List Int), 10 ∉ L → linesT cur L = if cur ++ L = [] then [] else [cur ++ L]
  | [], cur, _ => by rw [linesT, List.append_nil]
  | c :: L, cur, h => by
    have hc : ¬ c = 10 := fun e => h (by rw [e]; simp)
    rw [linesT, if_neg hc, linesT_end L (cur ++ [c]) (fun hm => h (by simp [hm]))]
    simp
theorem line_loud (o : S29) : ¬ silI (lineO o) = true := fun h => by
  have h1 := run_silent _ h
  have h2 := line_run o.f0 o.f1 o.f2 o.f3 o.f4 o.f5 o.f6 true
  have h3 : run true (lineO o) .gap [] = some (bytesOf (shp o.f0).1 :: (bytesOf (shp o.f0).2).map (wordI o.f0 o.f1 o.f2 o.f3 o.f4 o.f5 o.f6)) := h2
  rw [h3] at h1
  exact absurd (Option.some.inj h1) (by simp)
theorem stepP_line (o : S29) (ho : okS o) : stepP (strOfNums (bytesOf (shp o.f0).1)) (((bytesOf (shp o.f0).2).map (wordI o.f0 o.f1 o.f2 o.f3 o.f4 o.f5 o.f6)).map strOfNums) = tupB (plO o) true := by
  have h1 := step_line o ho
  have hs := line_size o ho
  have e : bytesOf (strOfNums (lineO o)) = lineO o := bytesOf_str _ (line_range _ _ _ _ _ _ _)
  have h3 : run false (bytesOf (strOfNums (lineO o))) .gap [] = some (bytesOf (shp o.f0).1 :: (bytesOf (shp o.f0).2).map (wordI o.f0 o.f1 o.f2 o.f3 o.f4 o.f5 o.f6)) := by
    rw [e]; exact line_run o.f0 o.f1 o.f2 o.f3 o.f4 o.f5 o.f6 false
  obtain ⟨b1, b2⟩ := words_small (strOfNums (lineO o)) (by omega) h3
  exact Ev.one (step_P _ _ b1 b2) h1
theorem lineP_op (o : S29) (ho : okS o) (h : S23) (ops : List S29) : lineP true h ops (lineO o) = some (true, h, ops ++ [plO o]) := by
  have h2 : run false (lineO o) .gap [] = some (bytesOf (shp o.f0).1 :: (bytesOf (shp o.f0).2).map (wordI o.f0 o.f1 o.f2 o.f3 o.f4 o.f5 o.f6)) := line_run o.f0 o.f1 o.f2 o.f3 o.f4 o.f5 o.f6 false
  unfold lineP
  rw [if_neg (line_loud o), h2]
  dsimp only
  rw [if_pos rfl, stepP_line o ho]
  rfl
def headI (h : S23) : List Int := storeI ++ numsI (headNums h.f0 h.f1 h.f2 h.f3 h.f4 h.f5)
def okH (h : S23) : Prop := ∀ n ∈ headNums h.f0 h.f1 h.f2 h.f3 h.f4 h.f5, inI n
theorem nums_sep (l : List Int) : numsI l = sep (l.map numI) := by
  unfold numsI sep
  rw [List.flatMap_map]
theorem okW_store : okW storeI := .inl ⟨by simp [storeI], by decide, by decide⟩
theorem head_run (hs : Bool) (h : S23) : run hs (headI h) .gap [] = some (storeI :: (headNums h.f0 h.f1 h.f2 h.f3 h.f4 h.f5).map numI) := by
  unfold headI
  rw [nums_sep]
  have := run_line hs ((headNums h.f0 h.f1 h.f2 h.f3 h.f4 h.f5).map numI) storeI [] (by decide) okW_store (fun w hw => by
    obtain ⟨n, _, rfl⟩ := List.mem_map.1 hw
    exact okW_num n)
  rw [this]; rfl
theorem head_loud (h : S23) : ¬ silI (headI h) = true := fun hh => by
  have h1 := run_silent _ hh
  rw [head_run] at h1
  exact absurd (Option.some.inj h1) (by simp)
theorem numR_num (v : Int) (h : inI v) : numR (strOfNums (numI v)) = some v := numR_some _ v h (by rw [itoa_word, itoa_bytes])
theorem store_str : strOfNums storeI = storeB := by decide +kernel
theorem headN_line (h : S23) (hk : okH h) : headN (strOfNums storeI) (((headNums h.f0 h.f1 h.f2 h.f3 h.f4 h.f5).map numI).map strOfNums) = outH (some h) := by
  unfold headN
  rw [if_pos (by simp [headNums]), store_str, if_pos (by simp)]
  have k0 := numR_num h.f0 (hk _ (by simp [headNums]))
  have k1 := numR_num h.f1 (hk _ (by simp [headNums]))
  have k2 := numR_num h.f2 (hk _ (by simp [headNums]))
  have k3 := numR_num h.f3 (hk _ (by simp [headNums]))
  have k4 := numR_num h.f4 (hk _ (by simp [headNums]))
  have k5 := numR_num h.f5 (hk _ (by simp [headNums]))
  simp only [headNums, List.map_cons, List.map_nil, readN, k0, k1, k2, k3, k4, k5]
  rfl
theorem lineP_head (h : S23) (hk : okH h) (h0 : S23) (ops : List S29) : lineP false h0 ops (headI h) = some (true, h, ops) := by
  unfold lineP
  rw [if_neg (head_loud h), head_run]
  dsimp only
  rw [if_neg (by decide), headN_line h hk]
  rfl
theorem print_range (a0 a1 a2 a3 a4 a5 : Int) (l : List S29) : ∀ x ∈ printI a0 a1 a2 a3 a4 a5 l, 0 ≤ x ∧ x ≤ 255 := by
  intro x hx
  unfold printI at hx
  rcases List.mem_append.1 hx with hx | hx
  · rcases List.mem_append.1 hx with hx | hx
    · rcases List.mem_append.1 hx with hx | hx
      · simp [storeI] at hx; omega
      · obtain ⟨n, _, hm⟩ := List.mem_flatMap.1 hx
        rcases List.mem_cons.1 hm with e | e
        · omega
        · have := (numI_chars n).2 x e
          omega
    · simp at hx; omega
  · obtain ⟨o, _, hm⟩ := List.mem_flatMap.1 hx
    unfold opI at hm
    rcases List.mem_append.1 hm with e | e
    · exact line_range _ _ _ _ _ _ _ x e
    · simp at e; omega
theorem lineO_len (o : S29) (ho : okS o) : (lineO o).length ≤ 16 * o.f4.size + 300 := by
  have piece : ∀ c, (pieceI o.f0 o.f1 o.f2 o.f3 o.f4 o.f5 o.f6 c).length ≤ 4 * o.f4.size + 30 := by
    intro c
    unfold pieceI
    have h1 := numI_len _ (fldV_in ho c)
    have h2 := skuI_len (bytesOf o.f4)
    rw [G.bytesOf_length] at h2
    rw [List.length_cons]
    split <;> omega
  have key : ∀ l : List Int, (l.flatMap (pieceI o.f0 o.f1 o.f2 o.f3 o.f4 o.f5 o.f6)).length ≤ (4 * o.f4.size + 30) * l.length := by
    intro l
    induction l with
    | nil => simp
    | cons c t ih => rw [List.flatMap_cons, List.length_append, List.length_cons, Nat.mul_succ]; have := piece c; omega
  obtain ⟨_, _, _, h4, h5⟩ := shapes o.f0
  have h6 := key (bytesOf (shp o.f0).2)
  rw [G.bytesOf_length] at h6
  have h7 : (4 * o.f4.size + 30) * (shp o.f0).2.size ≤ (4 * o.f4.size + 30) * 4 := Nat.mul_le_mul_left _ h5
  unfold lineO lineI
  rw [List.length_append, G.bytesOf_length]
  omega
end Go.Proofs.YtlmdhpfggobogaaDoor.Pure

namespace Go.Proofs.YtlmdhpfggobogaaDoor.Pure
open Go.Proofs.YtlmdhpfggobogaaDoor.G hiding bytesOf_length
open Go.RowKit Go.Proofs.YtlmdhpfggobogaaDoorW.PrintWords Go.Proofs.YtlmdhpfggobogaaDoorW.PrintLast
set_option linter.unusedVariables false
end Go.Proofs.YtlmdhpfggobogaaDoor.Pure

namespace Go.Proofs.YtlmdhpfggobogaaDoor.Pure
open Go.Proofs.YtlmdhpfggobogaaDoor.G hiding bytesOf_length
open Go.RowKit Go.Proofs.YtlmdhpfggobogaaDoorW.PrintWords Go.Proofs.YtlmdhpfggobogaaDoorW.PrintLast
set_option linter.unusedVariables false
def FILL : List (List Int) := [[32], [32, 32], [9], [32, 13, 32], [9, 32, 9], [13]]
def ROWSI : List (List Int) := [[10], [13, 10], [10, 10], [32, 10, 35, 32, 115, 116, 111, 114, 101, 32, 49, 32, 49, 10], [10, 32, 32, 35, 34, 10, 9, 10], [10, 35, 10, 35, 10]]
def blankL (g : List Int) : Prop := ∀ c ∈ g, isB c = true
theorem fill_blank : ∀ f ∈ FILL, f ≠ [] ∧ blankL f := by
  have h : ∀ f ∈ FILL, f ≠ [] ∧ f.all isB = true := by decide
  intro f hf
  exact ⟨(h f hf).1, fun c hc => List.all_eq_true.1 (h f hf).2 c hc⟩
theorem blank_no10 {g : List Int} (h : blankL g) : 10 ∉ g := fun hm => absurd (h 10 hm) (by decide)
inductive Spr : List Int → List Int → Prop where
  | nil : Spr [] []
  | chr {c : Int} {t u : List Int} (h1 : c ≠ 32) (h2 : c ≠ 10) (h : Spr t u) : Spr (c :: t) (c :: u)
  | gap {f t u : List Int} (hf : f ∈ FILL) (h : Spr t u) : Spr (32 :: t) (f ++ u)
  | row {r f t u : List Int} (hr : r ∈ ROWSI) (hf : f ∈ FILL) (h : Spr t u) : Spr (10 :: t) (r ++ (f ++ u))
theorem spr_split : ∀ (L t u : List Int), 10 ∉ L → Spr (L ++ 10 :: t) u → ∃ L' r f u', Spr L L' ∧ r ∈ ROWSI ∧ f ∈ FILL ∧ Spr t u' ∧ u = L' ++ (r ++ (f ++ u'))
  | [], t, u, _, h => by
    cases h with
    | chr h1 h2 h => exact absurd rfl h2
    | row hr hf h => exact ⟨[], _, _, _, .nil, hr, hf, h, rfl⟩
  | c :: L, t, u, hn, h => by
    have hL : 10 ∉ L := fun hm => hn (by simp [hm])
    rw [List.cons_append] at h
    cases h with
    | chr h1 h2 h =>
      obtain ⟨L', r, f, u', k1, k2, k3, k4, k5⟩ := spr_split L t _ hL h
      exact ⟨c :: L', r, f, u', .chr h1 h2 k1, k2, k3, k4, by rw [k5]; rfl⟩
    | gap hf h =>
      obtain ⟨L', r, f', u', k1, k2, k3, k4, k5⟩ := spr_split L t _ hL h
      exact ⟨_ ++ L', r, f', u', .gap hf k1, k2, k3, k4, by rw [k5, List.append_assoc]⟩
    | row hr hf h => exact absurd (by simp) hn
theorem spr_word : ∀ (w r u : List Int), 32 ∉ w → 10 ∉ w → Spr (w ++ r) u → ∃ u', u = w ++ u' ∧ Spr r u'
  | [], r, u, _, _, h => ⟨u, rfl, h⟩
  | c :: w, r, u, h32, h10, h => by
    rw [List.cons_append] at h
    cases h with
    | chr h1 h2 h =>
      obtain ⟨u', k1, k2⟩ := spr_word w r _ (fun hm => h32 (by simp [hm])) (fun hm => h10 (by simp [hm])) h
      exact ⟨u', by rw [k1]; rfl, k2⟩
    | gap hf h => exact absurd (by simp) h32
    | row hr hf h => exact absurd (by simp) h10
inductive Gp : List (List Int) → List Int → Prop where
  | nil : Gp [] []
  | cons {w : List Int} {ws : List (List Int)} {g u : List Int} (hg : g ≠ []) (hb : blankL g) (h : Gp ws u) : Gp (w :: ws) (g ++ (w ++ u))
theorem spr_gp : ∀ (ws : List (List Int)) (u : List Int), (∀ w ∈ ws, 32 ∉ w ∧ 10 ∉ w) → Spr (sep ws) u → Gp ws u
  | [], u, _, h => by
    have : sep [] = [] := rfl
    rw [this] at h
    cases h
    exact .nil
  | w :: ws, u, hw, h => by
    have e : sep (w :: ws) = 32 :: (w ++ sep ws) := rfl
    rw [e] at h
    cases h with
    | chr h1 h2 h => exact absurd rfl h1
    | gap hf h =>
      obtain ⟨u', k1, k2⟩ := spr_word w (sep ws) _ (hw w (by simp)).1 (hw w (by simp)).2 h
      rw [k1]
      exact .cons (fill_blank _ hf).1 (fill_blank _ hf).2 (spr_gp ws u' (fun x hx => hw x (by simp [hx])) k2)
theorem run_blank (hs : Bool) : ∀ (g r : List Int) (acc : List (List Int)), blankL g → run hs (g ++ r) .gap acc = run hs r .gap acc
  | [], r, acc, _ => rfl
  | c :: g, r, acc, h => by
    rw [List.cons_append]
    conv => lhs; unfold run
    rw [if_pos (h c (by simp))]
    exact run_blank hs g r acc (fun x hx => h x (by simp [hx]))
theorem run_push (hs : Bool) (w g r : List Int) (acc : List (List Int)) (st : St) (hst : st = .bare w ∨ st = .shut w) (hh : hashL (acc ++ [w]) = false) (hg : g ≠ []) (hb : blankL g) : run hs (g ++ r) st acc = run hs r .gap (acc ++ [w]) := by
  cases g with
  | nil => exact absurd rfl hg
  | cons c g =>
    rw [List.cons_append, ← run_blank hs g r (acc ++ [w]) (fun x hx => hb x (by simp [hx]))]
    rcases hst with rfl | rfl
    all_goals
      conv => lhs; unfold run
      rw [if_pos (hb c (by simp)), hh, Bool.and_false, if_neg (by decide)]
theorem run_gp (hs : Bool) (e : List Int) (he : blankL e) : ∀ (ws : List (List Int)) (W u : List Int) (acc : List (List Int)), hashL (acc ++ [W]) = false → okW W → (∀ w ∈ ws, okW w) → Gp ws u → run hs (W ++ (u ++ e)) .gap acc = some (acc ++ W :: ws)
  | [], W, u, acc, hh, hW, _, hu => by
    cases hu
    obtain ⟨st, h1, h2⟩ := run_word hs W e acc hW
    rw [List.nil_append, h1]
    by_cases hn : e = []
    · subst hn
      rcases h2 with rfl | rfl
      all_goals
        show (if (hs && hashL (acc ++ [W])) = true then some [] else some (acc ++ [W])) = _
        rw [hh, Bool.and_false, if_neg (by decide)]
    · have := run_push hs W e [] acc st h2 hh hn he
      rw [List.append_nil] at this
      rw [this]; rfl
  | w :: ws, W, u, acc, hh, hW, hws, hu => by
    cases hu with
    | cons hg hb hu =>
      rename_i g u
      obtain ⟨st, h1, h2⟩ := run_word hs W (g ++ (w ++ (u ++ e))) acc hW
      have hh2 : hashL (acc ++ [W] ++ [w]) = false := by
        rw [← hh]
        unfold hashL
        cases acc <;> rfl
      have ih := run_gp hs e he ws w u (acc ++ [W]) hh2 (hws w (by simp)) (fun x hx => hws x (by simp [hx])) hu
      have ea : g ++ (w ++ u) ++ e = g ++ (w ++ (u ++ e)) := by simp
      rw [ea, h1, run_push hs W g _ acc st h2 hh hg hb, ih]
      simp
theorem gp_no10 : ∀ {ws : List (List Int)} {u : List Int}, Gp ws u → (∀ w ∈ ws, 10 ∉ w) → 10 ∉ u
  | _, _, .nil, _ => by simp
  | _, _, .cons hg hb h, hw => by
    have h1 := gp_no10 h (fun x hx => hw x (by simp [hx]))
    have h2 := blank_no10 hb
    have h3 := hw _ (List.mem_cons_self ..)
    simp only [List.mem_append, not_or]
    exact ⟨h2, h3, h1⟩
structure Line (L : List Int) (W : List Int) (ws : List (List Int)) : Prop where
  eqn : L = W ++ sep ws
  okw : okW W
  okws : ∀ x ∈ ws, okW x
  hash : hashL ([] ++ [W]) = false
  no : (32 ∉ W ∧ 10 ∉ W) ∧ ∀ x ∈ ws, 32 ∉ x ∧ 10 ∉ x
theorem lineP_spr {L L' W : List Int} {ws : List (List Int)} (hl : Line L W ws) (p e : List Int) (hp : blankL p) (he : blankL e) (h : Spr L L') (b : Bool) (hd : S23) (ops : List S29) : lineP b hd ops (p ++ (L' ++ e)) = lineP b hd ops L ∧ 10 ∉ p ++ (L' ++ e) := by
  rw [hl.eqn] at h
  obtain ⟨u, k1, k2⟩ := spr_word W (sep ws) L' hl.no.1.1 hl.no.1.2 h
  have hg := spr_gp ws u hl.no.2 k2
  have r : ∀ hs, run hs (p ++ (L' ++ e)) .gap [] = some (W :: ws) := by
    intro hs
    rw [run_blank hs p _ [] hp, k1, List.append_assoc]
    exact run_gp hs e he ws W u [] hl.hash hl.okw hl.okws hg
  have r2 : ∀ hs, run hs L .gap [] = some (W :: ws) := by
    intro hs
    rw [hl.eqn]
    exact run_line hs ws W [] hl.hash hl.okw hl.okws
  have loud : ∀ l, (∀ hs, run hs l .gap [] = some (W :: ws)) → ¬ silI l = true := by
    intro l hr hsil
    have h1 := run_silent l hsil
    rw [hr true] at h1
    exact absurd (Option.some.inj h1) (by simp)
  refine ⟨?_, ?_⟩
  · unfold lineP
    rw [if_neg (loud _ r), if_neg (loud _ r2), r false, r2 false]
  · rw [k1]
    simp only [List.mem_append, not_or]
    exact ⟨blank_no10 hp, ⟨hl.no.1.2, gp_no10 hg (fun x hx => (hl.no.2 x hx).2)⟩, blank_no10 he⟩
theorem op_line (o : S29) : Line (lineO o) (bytesOf (shp o.f0).1) ((bytesOf (shp o.f0).2).map (wordI o.f0 o.f1 o.f2 o.f3 o.f4 o.f5 o.f6)) where
  eqn := line_sep _ _ _ _ _ _ _
  okw := okW_shp _
  okws := fun x hx => by obtain ⟨c, _, rfl⟩ := List.mem_map.1 hx; exact okW_word _ _ _ _ _ _ _ c
  hash := shp_hash _
  no := ⟨⟨fun h => by have := (shp_word o.f0).2 32 h; omega, fun h => by have := (shp_word o.f0).2 10 h; omega⟩, fun x hx => by
    obtain ⟨c, _, rfl⟩ := List.mem_map.1 hx
    have := word_C o.f0 o.f1 o.f2 o.f3 o.f4 o.f5 o.f6 c
    exact ⟨fun h => by have := this 32 h; omega, fun h => by have := this 10 h; omega⟩⟩
theorem head_line (h : S23) : Line (headI h) storeI ((headNums h.f0 h.f1 h.f2 h.f3 h.f4 h.f5).map numI) where
  eqn := by unfold headI; rw [nums_sep]
  okw := okW_store
  okws := fun x hx => by obtain ⟨n, _, rfl⟩ := List.mem_map.1 hx; exact okW_num n
  hash := by decide
  no := ⟨by decide, fun x hx => by
    obtain ⟨n, _, rfl⟩ := List.mem_map.1 hx
    exact ⟨fun h => by have := (numI_chars n).2 32 h; omega, fun h => by have := (numI_chars n).2 10 h; omega⟩⟩
theorem row_parts : ∀ r ∈ ROWSI, ∃ (e : List Int) (S : List (List Int)), r = e ++ 10 :: S.flatMap (fun s => s ++ [10]) ∧ blankL e ∧ ∀ s ∈ S, silI s = true ∧ 10 ∉ s := by
  have hb : ∀ e : List Int, e.all isB = true → blankL e := fun e h c hc => List.all_eq_true.1 h c hc
  intro r hr
  simp only [ROWSI, List.mem_cons, List.not_mem_nil, or_false] at hr
  rcases hr with rfl | rfl | rfl | rfl | rfl | rfl
  · exact ⟨[], [], rfl, hb _ rfl, by simp⟩
  · exact ⟨[13], [], rfl, hb _ rfl, by simp⟩
  · exact ⟨[], [[]], rfl, hb _ rfl, by decide⟩
  · exact ⟨[32], [[35, 32, 115, 116, 111, 114, 101, 32, 49, 32, 49]], rfl, hb _ rfl, by decide⟩
  · exact ⟨[], [[32, 32, 35, 34], [9]], rfl, hb _ rfl, by decide⟩
  · exact ⟨[], [[35], [35]], rfl, hb _ rfl, by decide⟩
theorem linesT_silent : ∀ (S : List (List Int)) (t : List Int), (∀ s ∈ S, silI s = true ∧ 10 ∉ s) → linesT [] (S.flatMap (fun s => s ++ [10]) ++ t) = S ++ linesT [] t
  | [], t, _ => rfl
  | s :: S, t, h => by
    have e : (s :: S).flatMap (fun s => s ++ [10]) ++ t = s ++ 10 :: (S.flatMap (fun s => s ++ [10]) ++ t) := by simp
    rw [e, linesT_app _ _ _ (h s (by simp)).2, linesT_silent S t (fun x hx => h x (by simp [hx]))]; rfl
theorem parsC_silent (b : Bool) (h : S23) (ops : List S29) : ∀ (S M : List (List Int)) (i : Nat), (∀ s ∈ S, silI s = true ∧ 10 ∉ s) → parsC (S ++ M) i b h ops = parsC M (i + S.length) b h ops
  | [], M, i, _ => rfl
  | s :: S, M, i, hS => by
    show parsC (s :: (S ++ M)) i b h ops = _
    rw [parsC]
    have e : lineP b h ops s = some (b, h, ops) := by unfold lineP; rw [if_pos (hS s (by simp)).1]
    rw [e]
    dsimp only
    rw [parsC_silent b h ops S M (i + 1) (fun x hx => hS x (by simp [hx])), List.length_cons]
    congr 1
    omega
theorem parsC_step {L W : List Int} {ws : List (List Int)} (hl : Line L W ws) (t u p : List Int) (hp : blankL p) (h : Spr (L ++ 10 :: t) u) (i : Nat) (b : Bool) (hd : S23) (ops : List S29) (b' : Bool) (hd' : S23) (ops' : List S29) (hP : lineP b hd ops L = some (b', hd', ops')) :
    ∃ (f u' : List Int) (j : Nat), blankL f ∧ Spr t u' ∧ parsC (linesT [] (p ++ u)) i b hd ops = parsC (linesT [] (f ++ u')) j b' hd' ops' := by
  have hL : 10 ∉ L := by
    rw [hl.eqn]
    intro hm
    rcases List.mem_append.1 hm with hm | hm
    · exact hl.no.1.2 hm
    · obtain ⟨w, hw, hc⟩ := List.mem_flatMap.1 hm
      rcases List.mem_cons.1 hc with e | e
      · omega
      · exact (hl.no.2 w hw).2 e
  obtain ⟨L', r, f, u', k1, k2, k3, k4, k5⟩ := spr_split L t u hL h
  obtain ⟨e, S, r1, r2, r3⟩ := row_parts r k2
  obtain ⟨q1, q2⟩ := lineP_spr hl p e hp r2 k1 b hd ops
  refine ⟨f, u', i + 1 + S.length, (fill_blank f k3).2, k4, ?_⟩
  have ea : p ++ u = (p ++ (L' ++ e)) ++ 10 :: (S.flatMap (fun s => s ++ [10]) ++ (f ++ u')) := by rw [k5, r1]; simp
  rw [ea, linesT_app _ _ _ q2, List.nil_append, linesT_silent S _ r3, parsC, q1, hP]
  dsimp only
  rw [parsC_silent b' hd' ops' S _ (i + 1) r3]
theorem sil_blank : ∀ f : List Int, blankL f → silI f = true
  | [], _ => rfl
  | c :: f, h => by rw [silI, if_pos (h c (by simp))]; exact sil_blank f (fun x hx => h x (by simp [hx]))
theorem spr_ops (hd : S23) : ∀ (l : List S29) (u p : List Int) (i : Nat) (ops : List S29), (∀ o ∈ l, okS o) → blankL p → Spr (l.flatMap opI) u → parsC (linesT [] (p ++ u)) i true hd ops = goodP hd (ops ++ l.map plO)
  | [], u, p, i, ops, _, hp, h => by
    have e : ([] : List S29).flatMap opI = [] := rfl
    rw [e] at h
    cases h
    rw [List.append_nil, linesT_end p [] (blank_no10 hp), List.nil_append, List.map_nil, List.append_nil]
    by_cases hn : p = []
    · rw [if_pos hn, parsC, if_pos rfl]
    · rw [if_neg hn, parsC]
      have e2 : lineP true hd ops p = some (true, hd, ops) := by unfold lineP; rw [if_pos (sil_blank p hp)]
      rw [e2]
      dsimp only
      rw [parsC, if_pos rfl]
  | o :: l, u, p, i, ops, ho, hp, h => by
    have e : (o :: l).flatMap opI = lineO o ++ 10 :: l.flatMap opI := by
      rw [List.flatMap_cons]; unfold opI lineO; simp
    rw [e] at h
    obtain ⟨f, u', j, k1, k2, k3⟩ := parsC_step (op_line o) _ u p hp h i true hd ops true hd (ops ++ [plO o]) (lineP_op o (ho o (by simp)) hd ops)
    rw [k3, spr_ops hd l u' f j (ops ++ [plO o]) (fun x hx => ho x (by simp [hx])) k1 k2]
    simp
theorem spr_print (hd : S23) (l : List S29) (hk : okP hd.f0 hd.f1 hd.f2 hd.f3 hd.f4 hd.f5 l) (u : List Int) (h : Spr (printI hd.f0 hd.f1 hd.f2 hd.f3 hd.f4 hd.f5 l) u) : parsC (linesT [] u) 0 false zeroH [] = goodP hd (l.map plO) := by
  have e : printI hd.f0 hd.f1 hd.f2 hd.f3 hd.f4 hd.f5 l = headI hd ++ 10 :: l.flatMap opI := by unfold printI headI; simp
  rw [e] at h
  obtain ⟨f, u', j, k1, k2, k3⟩ := parsC_step (head_line hd) _ u [] (by intro c hc; cases hc) h 0 false zeroH [] true hd [] (lineP_head hd hk.1 zeroH [])
  rw [List.nil_append] at k3
  rw [k3, spr_ops hd l u' f j [] hk.2.2 k1 k2]; rfl
def wgt8 (l : List S29) : Nat := (l.map fun o => o.f4.size + 8).sum
theorem print_size8 (h : S23) (l : List S29) (hk : okP h.f0 h.f1 h.f2 h.f3 h.f4 h.f5 l) (hw : wgt8 l ≤ 1048576) : (strOfNums (printI h.f0 h.f1 h.f2 h.f3 h.f4 h.f5 l)).size ≤ 39847000 := by
  have key : ∀ l : List S29, (∀ o ∈ l, okS o) → (l.flatMap opI).length ≤ 38 * wgt8 l := by
    intro l
    induction l with
    | nil => intro _; simp [wgt8]
    | cons o t ih =>
      intro ho
      have h1 := lineO_len o (ho o (by simp))
      have h2 := ih (fun x hx => ho x (by simp [hx]))
      have h3 : (opI o).length = (lineO o).length + 1 := by unfold opI lineO; simp
      have h4 : wgt8 (o :: t) = o.f4.size + 8 + wgt8 t := rfl
      rw [List.flatMap_cons, List.length_append, h3, h4]
      omega
  have h1 := key l hk.2.2
  have h2 := head_len hk 6
  have h5 : (headNums h.f0 h.f1 h.f2 h.f3 h.f4 h.f5).take 6 = headNums h.f0 h.f1 h.f2 h.f3 h.f4 h.f5 := rfl
  rw [h5] at h2
  rw [← G.bytesOf_length, bytesOf_str _ (print_range _ _ _ _ _ _ _)]
  unfold printI
  rw [List.length_append, List.length_append, List.length_singleton]
  omega
end Go.Proofs.YtlmdhpfggobogaaDoor.Pure

namespace Go.Proofs.YtlmdhpfggobogaaDoor.G
open Go.RowKit Go.Proofs.YtlmdhpfggobogaaDoorW.PrintWords Go.Proofs.YtlmdhpfggobogaaDoorW.PrintLast Go.Proofs.YtlmdhpfggobogaaDoorW.PrintMore
set_option linter.unusedVariables false
def FB : Nat → ByteArray
  | 0 => ⟨#[32]⟩ | 1 => ⟨#[32, 32]⟩ | 2 => ⟨#[9]⟩ | 3 => ⟨#[32, 13, 32]⟩ | 4 => ⟨#[9, 32, 9]⟩ | _ => ⟨#[13]⟩
def RB : Nat → ByteArray
  | 0 => ⟨#[10]⟩ | 1 => ⟨#[13, 10]⟩ | 2 => ⟨#[10, 10]⟩ | 3 => ⟨#[32, 10, 35, 32, 115, 116, 111, 114, 101, 32, 49, 32, 49, 10]⟩ | 4 => ⟨#[10, 32, 32, 35, 34, 10, 9, 10]⟩ | _ => ⟨#[10, 35, 10, 35, 10]⟩
def fillC : Array Value := #[.string (FB 0), .string (FB 1), .string (FB 2), .string (FB 3), .string (FB 4), .string (FB 5)]
def rowsC : Array Value := #[.string (RB 0), .string (RB 1), .string (RB 2), .string (RB 3), .string (RB 4), .string (RB 5)]
theorem fb_in (k : Nat) (h : k < 6) : bytesOf (FB k) ∈ Pure.FILL ∧ (FB k).size ≤ 3 := by
  rcases k with _ | _ | _ | _ | _ | _ | k <;> first | omega | decide +kernel
theorem rb_in (k : Nat) (h : k < 6) : bytesOf (RB k) ∈ Pure.ROWSI ∧ (RB k).size ≤ 14 := by
  rcases k with _ | _ | _ | _ | _ | _ | k <;> first | omega | decide +kernel
theorem fill_at (k : Nat) (h : k < 6) : fillC[k]? = some (.string (FB k)) := by
  rcases k with _ | _ | _ | _ | _ | _ | k <;> first | rfl | omega
theorem rows_at (k : Nat) (h : k < 6) : rowsC[k]? = some (.string (RB k)) := by
  rcases k with _ | _ | _ | _ | _ | _ | k <;> first | rfl | omega
theorem st49at {ops : Array Oper} {rest : List Oper} {o : Oper} {a : Act} {Q : Exit → Act → World → Prop} {w : World} {g : Nat} {O C : Array Value} {x y : Operand} (hgd : o.guard = none)
  (ho : o.op = .store 49 x y) (hd : o.dst = none) (hx : a.eval x = .pointer (some ⟨g, 0, none⟩)) (hy : a.eval y = .agg C) (hg : w.heap[g]? = some (.cells O 49 (0, 0)))
  (hO : O.size = 6) (hC : C.size = 6) (h1 : C.all (·.oneCell') = true) (h : ∀ w2, w2.heap[g]? = some (.cells C 49 (0, 0)) → (∀ k o, w.heap[k]? = some o → k ≠ g → w2.heap[k]? = some o) → (∀ B w0, Below B w0 w → B ≤ g → Below B w0 w2) → wpList Tryd.prog ops Q rest a w2) :
  wpList Tryd.prog ops Q (o :: rest) a w :=
 wpList_store_rowTo hgd 49 x y ho hd g C hx hy 49 O hg (by rw [hC]; kernel_rfl) (by omega) h1 (h _ (setRow_heap w g O C 49 (0, 0) hg) (fun k o hk hne => (setRow_other w g k C hne).trans hk) (fun B w0 hb hB => below_setRow hb hB C))
theorem spr_app {t u t2 u2 : List Int} (h : Pure.Spr t u) (h2 : Pure.Spr t2 u2) : Pure.Spr (t ++ t2) (u ++ u2) := by
  induction h with
  | nil => exact h2
  | chr k1 k2 h ih => exact .chr k1 k2 ih
  | gap hf h ih => rw [List.append_assoc]; exact .gap hf ih
  | row hr hf h ih => rw [List.append_assoc, List.append_assoc]; exact .row hr hf ih
theorem spr_range {t u : List Int} (h : Pure.Spr t u) (ht : ∀ x ∈ t, 0 ≤ x ∧ x ≤ 255) : ∀ x ∈ u, 0 ≤ x ∧ x ≤ 255 := by
  have hF : ∀ f ∈ Pure.FILL, ∀ x ∈ f, 0 ≤ x ∧ x ≤ 255 := by decide
  have hR : ∀ r ∈ Pure.ROWSI, ∀ x ∈ r, 0 ≤ x ∧ x ≤ 255 := by decide
  induction h with
  | nil => exact ht
  | chr k1 k2 h ih =>
    intro x hx
    rcases List.mem_cons.1 hx with e | e
    · rw [e]; exact ht _ (by simp)
    · exact ih (fun y hy => ht y (by simp [hy])) x e
  | gap hf h ih =>
    intro x hx
    rcases List.mem_append.1 hx with e | e
    · exact hF _ hf x e
    · exact ih (fun y hy => ht y (by simp [hy])) x e
  | row hr hf h ih =>
    intro x hx
    rcases List.mem_append.1 hx with e | e
    · exact hR _ hr x e
    · rcases List.mem_append.1 e with e | e
      · exact hF _ hf x e
      · exact ih (fun y hy => ht y (by simp [hy])) x e
theorem st26at {ops : Array Oper} {rest : List Oper} {o : Oper} {a : Act} {Q : Exit → Act → World → Prop} {w : World} {g : Nat} {O C : Array Value} {x y : Operand} (hgd : o.guard = none)
  (ho : o.op = .store 26 x y) (hd : o.dst = none) (hx : a.eval x = .pointer (some ⟨g, 0, none⟩)) (hy : a.eval y = .agg C) (hg : w.heap[g]? = some (.cells O 26 (0, 0)))
  (hO : O.size = 7) (hC : C.size = 7) (h1 : C.all (·.oneCell') = true) (h : ∀ w2, w2.heap[g]? = some (.cells C 26 (0, 0)) → (∀ k o, w.heap[k]? = some o → k ≠ g → w2.heap[k]? = some o) → (∀ B w0, Below B w0 w → B ≤ g → Below B w0 w2) → wpList Tryd.prog ops Q rest a w2) :
  wpList Tryd.prog ops Q (o :: rest) a w :=
 wpList_store_rowTo hgd 26 x y ho hd g C hx hy 26 O hg (by rw [hC]; kernel_rfl) (by omega) h1 (h _ (setRow_heap w g O C 26 (0, 0) hg) (fun k o hk hne => (setRow_other w g k C hne).trans hk) (fun B w0 hb hB => below_setRow hb hB C))
theorem R_other {w w2 : World} {base g : Nat} {v : Value} {l : List S29} {cs : Array Value} (h : Kd.R k29 29 w base (fun _ => True) v l) (hb : w.heap[g]? = some (.cells cs 26 (0, 0))) (hk : ∀ k o, w.heap[k]? = some o → k ≠ g → w2.heap[k]? = some o) : Kd.R k29 29 w2 base (fun _ => True) v l :=
  Kd.R_mono (Kd.R_step (Kd.R_types h hb (by decide)) (fun k h1 h2 => by
    have e : w.heap[k]? = some w.heap[k] := Array.getElem?_eq_getElem h2
    rw [e, hk k _ e h1.2])) (fun _ _ => trivial)
set_option maxHeartbeats 8000000 in
set_option maxRecDepth 100000 in
theorem barrowlaw24_ScriptSpread.calls (a0_0 a0_1 a0_2 a0_3 a0_4 a0_5 : Int) (A0_6 : Option Addr) (c0_6 : Nat) (l0_6 : List S29) (A1 : Option Addr) (cG : Nat) (l1 : List Int) (w : World) (hTab : Aside0 (Tab w)) (hTabE : Aside0 (TabE w)) (hTabM : Aside0 (TabM w))
    (hr0 : Kd.C k29 w A0_6 l0_6.length l0_6) (hc0 : l0_6.length ≤ c0_6) (hr1 : Kd.C (Kd.int .u8) w A1 l1.length l1) (hc1 : l1.length ≤ cG) (hu8 : ∀ x ∈ l1, 0 ≤ x ∧ x ≤ 255) (hl1 : l1.length ≤ 1048576)
    (hok : okP a0_0 a0_1 a0_2 a0_3 a0_4 a0_5 l0_6) (hwt : Pure.wgt8 l0_6 ≤ 1048576) :
    Calls Tryd.prog 12 #[.agg #[.int .i64 a0_0, .int .i64 a0_1, .int .i64 a0_2, .int .i64 a0_3, .int .i64 a0_4, .int .i64 a0_5, .slice A0_6 l0_6.length c0_6], .slice A1 l1.length cG] w fun e w' => e = .returned (.bool true) ∧ Below w.heap.size w w' := by
  obtain ⟨kA, hA⟩ := Pure.awake_ev.rounds
  have HA := Aside0.mk hA
  obtain ⟨T, hT⟩ : ∃ T, strOfNums (printI a0_0 a0_1 a0_2 a0_3 a0_4 a0_5 l0_6) = T := ⟨_, rfl⟩
  have hP : script_Print.f a0_0 a0_1 a0_2 a0_3 a0_4 a0_5 l0_6 = some T := by rw [← hT]; exact if_pos hok
  have hTs : T.size ≤ 39847000 := by rw [← hT]; exact Pure.print_size8 ⟨a0_0, a0_1, a0_2, a0_3, a0_4, a0_5⟩ l0_6 hok hwt
  have hTb : bytesOf T = printI a0_0 a0_1 a0_2 a0_3 a0_4 a0_5 l0_6 := by rw [← hT]; exact bytesOf_str _ (Pure.print_range _ _ _ _ _ _ _)
  have HP := Aside0.mk hP
  have HTb := Aside0.mk hTb
  have HOk := Aside0.mk hok
  have HR0 := Aside0.mk hr0
  have HC0 := Aside0.mk hc0
  have HR1 := Aside0.mk (show Kd.C (Kd.int .u8) w A1 l1.length l1 ∧ ∀ x ∈ l1, 0 ≤ x ∧ x ≤ 255 from ⟨hr1, hu8⟩)
  obtain ⟨nG, hn1⟩ : ∃ nG, l1.length = nG := ⟨_, rfl⟩
  rw [hn1] at hl1 hc1 ⊢
  have HN1 := Aside0.mk hn1
  clear hA hT hP hTb hok hwt hr0 hc0 hr1 hu8 hn1
  have S1 : True := trivial
  have S2 : True := trivial
  have S3 : True := trivial
  have S4 : True := trivial
  have S5 : True := trivial
  have S6 : True := trivial
  have S7 : True := trivial
  go_enter Tryd.func12, Tryd.ntmps12
  go_wp2_with (first | (clear S1; (with_reducible refine gate_dst (N := 2) rfl ?_); refine box_event ?hg (N := 2) ?hd (cs := #[.int .i64 a0_0, .int .i64 a0_1, .int .i64 a0_2, .int .i64 a0_3, .int .i64 a0_4, .int .i64 a0_5, .slice A0_6 l0_6.length c0_6]) (t := 26) ?hr ?_; (case hd => rfl); (case hg => rfl); (case hr => first | (go_simp; done) | (go_simp; rfl)); intro gx hgx w1 hbox hb1; have n0 := Aside0.mk hbox; have n1 := Aside0.mk hb1; have n2 := Aside0.mk (show w.heap.size ≤ gx by rw [hgx]; exact Nat.le_refl _); clear hbox hb1 hgx) | (clear S2; go_at_call 16; refine (barrowlaw24_awake.calls kA true _ (tab_keep hTab n1.out) (tabE_keep hTabE n1.out) HA.out).mono ?_; rintro e w2 ⟨rfl, hb2⟩; have p0 := Aside0.mk (blk_below n0.out hb2); have p1 := Aside0.mk (below_step n1.out hb2); have c0 : w2.cell? ⟨gx, 0, none⟩ = some (.int .i64 a0_0) := (by rw [Lib.cell_of_heap p0.out]; rfl); have c1 : w2.cell? ⟨gx, 1, none⟩ = some (.int .i64 a0_1) := (by rw [Lib.cell_of_heap p0.out]; rfl); have c2 : w2.cell? ⟨gx, 2, none⟩ = some (.int .i64 a0_2) := (by rw [Lib.cell_of_heap p0.out]; rfl); have c3 : w2.cell? ⟨gx, 3, none⟩ = some (.int .i64 a0_3) := (by rw [Lib.cell_of_heap p0.out]; rfl); have c4 : w2.cell? ⟨gx, 4, none⟩ = some (.int .i64 a0_4) := (by rw [Lib.cell_of_heap p0.out]; rfl); have c5 : w2.cell? ⟨gx, 5, none⟩ = some (.int .i64 a0_5) := (by rw [Lib.cell_of_heap p0.out]; rfl); have c6 : w2.cell? ⟨gx, 6, none⟩ = some (.slice A0_6 l0_6.length c0_6) := (by rw [Lib.cell_of_heap p0.out]; rfl); clear hb2) | (clear S3; go_at_call 14; refine (script_Print.calls a0_0 a0_1 a0_2 a0_3 a0_4 a0_5 A0_6 c0_6 l0_6 T _ (tab_keep hTab p1.out) (Kd.C_below HR0.out p1.out) HC0.out HP.out).mono ?_; rintro e w3 ⟨rfl, hb3⟩; have q0 := Aside0.mk (blk_below p0.out hb3); have q1 := Aside0.mk (below_step p1.out hb3); clear hb3) | (clear S4; (with_reducible refine gate_dst (N := 6) rfl ?_); refine box_event ?hg (N := 6) ?hd (cs := #[.string ⟨#[]⟩, .string ⟨#[]⟩, .string ⟨#[]⟩, .string ⟨#[]⟩, .string ⟨#[]⟩, .string ⟨#[]⟩]) (t := 49) ?hr ?_; (case hd => rfl); (case hg => rfl); (case hr => first | (go_simp; done) | (go_simp; rfl)); intro gf hgf w4 hbox hb4; have r0 := Aside0.mk hbox; have r1 := Aside0.mk (blk_below q0.out hb4); have r2 := Aside0.mk (below_step q1.out hb4); have r3 := Aside0.mk (show w.heap.size ≤ gf by rw [hgf]; exact q1.out.size); have r4 := Aside0.mk (show gx ≠ gf by rw [hgf]; exact Nat.ne_of_lt (blk_lt q0.out)); clear hbox hb4 hgf) | (clear S5; refine st49at (g := gf) rfl rfl rfl rfl rfl r0.out rfl rfl (by first | rfl | (simp [Value.oneCell'])) ?_; intro w5 h5 hk5 hb5; have s0 := Aside0.mk h5; have s1 := Aside0.mk (hk5 _ _ r1.out r4.out); have s2 := Aside0.mk (hb5 _ _ r2.out r3.out); clear h5 hk5 hb5) | (clear S6; (with_reducible refine gate_dst (N := 7) rfl ?_); refine box_event ?hg (N := 7) ?hd (cs := #[.string ⟨#[]⟩, .string ⟨#[]⟩, .string ⟨#[]⟩, .string ⟨#[]⟩, .string ⟨#[]⟩, .string ⟨#[]⟩]) (t := 49) ?hr ?_; (case hd => rfl); (case hg => rfl); (case hr => first | (go_simp; done) | (go_simp; rfl)); intro gr hgr w6 hbox hb6; have t0 := Aside0.mk hbox; have t1 := Aside0.mk (blk_below s1.out hb6); have t2 := Aside0.mk (below_step s2.out hb6); have t3 := Aside0.mk (show w.heap.size ≤ gr by rw [hgr]; exact s2.out.size); have t4 := Aside0.mk (show gx ≠ gr by rw [hgr]; exact Nat.ne_of_lt (blk_lt s1.out)); have t5 := Aside0.mk (blk_below s0.out hb6); have t6 := Aside0.mk (show gf ≠ gr by rw [hgr]; exact Nat.ne_of_lt (blk_lt s0.out)); clear hbox hb6 hgr) | (clear S7; refine st49at (g := gr) rfl rfl rfl rfl rfl t0.out rfl rfl (by first | rfl | (simp [Value.oneCell'])) ?_; intro w7 h7 hk7 hb7; have u0 := Aside0.mk h7; have u1 := Aside0.mk (hk7 _ _ t1.out t4.out); have u2 := Aside0.mk (hb7 _ _ t2.out t3.out); have u3 := Aside0.mk (hk7 _ _ t5.out t6.out); clear h7 hk7 hb7) | go_in)
  go_loopw [8, 9, 10] (fun v8 v9 v10 wr => ∃ (i at_ : Nat) (xs : List Int), v9 = .int .i64 at_ ∧ v10 = .int .i64 i ∧ i ≤ T.size ∧ at_ ≤ i ∧ xs.length ≤ 17 * i ∧ Aside0 (Pure.Spr ((bytesOf T).take i) xs) ∧ Aside0 (Kd.R (Kd.int .u8) 5 wr w.heap.size (fun _ => True) v8 xs) ∧ Aside0 (Below w.heap.size w wr) ∧ Aside0 (wr.heap[gx]? = some (.cells #[.int .i64 a0_0, .int .i64 a0_1, .int .i64 a0_2, .int .i64 a0_3, .int .i64 a0_4, .int .i64 a0_5, .slice A0_6 l0_6.length c0_6] 26 (0, 0))) ∧ Aside0 (wr.heap[gf]? = some (.cells fillC 49 (0, 0))) ∧ Aside0 (wr.heap[gr]? = some (.cells rowsC 49 (0, 0)))) (fun _ _ v10 _ => T.size - toN v10)
  case atStart => exact ⟨0, 0, [], rfl, rfl, Nat.zero_le _, Nat.le_refl _, by simp, ⟨by rw [List.take_zero]; exact .nil⟩, ⟨Kd.R_nil _ _ _ _ _⟩, u2, u1, u3, u0⟩
  case round =>
    obtain ⟨i, at_, xs, rfl, rfl, hi, hat, hxl, RS, RO, RW, RX, RF, RR⟩ := hrel
    clear n0 n1 p0 p1 q0 q1 r0 r1 r2 s0 s1 s2 t0 t1 t2 t5 u0 u1 u2 u3 c0 c1 c2 c3 c4 c5 c6
    obtain ⟨Ax, cx, ex⟩ := Kd.R_slice RO.out
    subst ex
    have S1 : True := trivial
    have S2 : True := trivial
    have S3 : True := trivial
    by_cases hit : i < T.size
    · have hp1 : (0 ≤ (i : Int)) = True := eq_true (by omega)
      have hp2 : ((i : Int) < (T.size : Int)) = True := eq_true (by omega)
      have hp3 : decide ((i : Int) < (T.size : Int)) = true := decide_eq_true (by omega)
      have hbt : ((T[i]'hit).toNat : Int) = bt T (i : Int) := by unfold bt; rw [dif_pos (by simpa using hit)]; rfl
      have htk : (bytesOf T).take (i + 1) = (bytesOf T).take i ++ [bt T (i : Int)] := by
        have h1 : i < (bytesOf T).length := by rw [bytesOf_length]; exact hit
        have h2 := List.drop_eq_getElem_cons h1
        rw [bytesOf_drop T i hit] at h2
        rw [List.take_succ_eq_append_getElem h1, ← (List.cons.inj h2).1]
      obtain ⟨c, hc⟩ : ∃ c, bt T (i : Int) = c := ⟨_, rfl⟩
      rw [hc] at hbt htk
      have HTK := Aside0.mk htk
      have hwi := wrap_succ i (by omega)
      have hwa := wrap_succ at_ (by omega)
      have HWI := Aside0.mk hwi
      have HWA := Aside0.mk hwa
      clear htk hc
      by_cases hg0 : nG = 0
      · have hgp : ((nG : Int) > 0) = False := eq_false (by omega)
        have hgd : decide ((nG : Int) > 0) = false := decide_eq_false (by omega)
        subst hg0
        obtain ⟨fb, hfb⟩ : ∃ fb, FB 0 = fb := ⟨_, rfl⟩
        obtain ⟨rb, hrb⟩ : ∃ rb, RB 0 = rb := ⟨_, rfl⟩
        have hfi := fb_in 0 (by omega)
        have hri := rb_in 0 (by omega)
        rw [hfb] at hfi
        rw [hrb] at hri
        have HFI := Aside0.mk hfi.1
        have HRI := Aside0.mk hri.1
        have hfs := hfi.2
        have hrs := hri.2
        clear hfi hri
        have hfc : ∀ W : World, W.heap[gf]? = some (.cells fillC 49 (0, 0)) → W.cell? ⟨gf, 0, none⟩ = some (.string fb) := fun W hW => by rw [Lib.cell_of_heap hW, ← hfb]; exact fill_at _ (by omega)
        have hrc : ∀ W : World, W.heap[gr]? = some (.cells rowsC 49 (0, 0)) → W.cell? ⟨gr, 0, none⟩ = some (.string rb) := fun W hW => by rw [Lib.cell_of_heap hW, ← hrb]; exact rows_at _ (by omega)
        have HFC := Aside0.mk hfc
        have HRC := Aside0.mk hrc
        have hf0 := hfc wr RF.out
        have hr0 := hrc wr RR.out
        clear hfc hrc hfb hrb
        by_cases h32 : c = 32
        · have hb1 : (c == 32) = true := beq_iff_eq.mpr h32
          obtain ⟨zs, hzs⟩ : ∃ zs, xs ++ bytesOf fb = zs := ⟨_, rfl⟩
          have HZ := Aside0.mk hzs
          have HAP := Aside0.mk (show xs.length + fb.size ≤ 140737488355328 by omega)
          have HZL := Aside0.mk (show zs.length ≤ 17 * (i + 1) by rw [← hzs, List.length_append, bytesOf_length]; omega)
          clear hzs
          go_wp2_with (first | (clear S1; (with_reducible refine gate_builtin (b := .append) (xs := #[.tmp 50, .tmp 53]) rfl ?_); at_builtin; refine print_append_str (w0 := w) w.heap.size rfl (.tmp 50) (.tmp 53) 48 9 5 rfl Tryd.underlying48 Tryd.underlying9 info5 (.slice Ax xs.length cx) xs fb rfl rfl (Kd.own_of_R RO.out) RW.out RW.out.size HAP.out ?_; intro vn wn hown hbn hg; have mo := Aside0.mk (show Kd.R (Kd.int .u8) 5 wn w.heap.size (fun _ => True) vn zs from HZ.out ▸ Kd.R_of_own hown (fun _ _ => trivial)); have mb := Aside0.mk hbn; have mx := Aside0.mk (blk_grown RX.out hg (Kd.R_ne RO.out RX.out (by decide))); have mf := Aside0.mk (blk_grown RF.out hg (Kd.R_ne RO.out RF.out (by decide))); have mr := Aside0.mk (blk_grown RR.out hg (Kd.R_ne RO.out RR.out (by decide))); clear hown hbn hg; obtain ⟨Am, cm, em⟩ := Kd.R_slice mo.out; subst em; ) | go_in)
          go_roundw
          case rel => exact ⟨i + 1, at_ + 1, zs, rfl, rfl, by omega, by omega, HZL.out, ⟨by rw [HTK.out, h32, ← HZ.out]; exact spr_app RS.out (by have := Pure.Spr.gap HFI.out Pure.Spr.nil; rw [List.append_nil] at this; exact this)⟩, mo, mb, mx, mf, mr⟩
          case measure => simp only [toN]; (try simp); omega
        by_cases h10 : c = 10
        · have hb1 : (c == 32) = false := beq_eq_false_iff_ne.mpr h32
          have hb2 : (c == 10) = true := beq_iff_eq.mpr h10
          obtain ⟨ys, hys⟩ : ∃ ys, xs ++ bytesOf rb = ys := ⟨_, rfl⟩
          have HZ := Aside0.mk hys
          obtain ⟨zs, hzs⟩ : ∃ zs, ys ++ bytesOf fb = zs := ⟨_, rfl⟩
          have HZ2 := Aside0.mk hzs
          have hyl : ys.length ≤ 17 * i + 14 := by rw [← hys, List.length_append, bytesOf_length]; omega
          have HAP := Aside0.mk (show xs.length + rb.size ≤ 140737488355328 by omega)
          have HAP2 := Aside0.mk (show ys.length + fb.size ≤ 140737488355328 by omega)
          have HZL := Aside0.mk (show zs.length ≤ 17 * (i + 1) by rw [← hzs, List.length_append, bytesOf_length]; omega)
          clear hys hzs
          go_wp2_with (first | (clear S1; (with_reducible refine gate_builtin (b := .append) (xs := #[.tmp 59, .tmp 62]) rfl ?_); at_builtin; refine print_append_str (w0 := w) w.heap.size rfl (.tmp 59) (.tmp 62) 48 9 5 rfl Tryd.underlying48 Tryd.underlying9 info5 (.slice Ax xs.length cx) xs rb rfl rfl (Kd.own_of_R RO.out) RW.out RW.out.size HAP.out ?_; intro vn wn hown hbn hg; have mo := Aside0.mk (show Kd.R (Kd.int .u8) 5 wn w.heap.size (fun _ => True) vn ys from HZ.out ▸ Kd.R_of_own hown (fun _ _ => trivial)); have mb := Aside0.mk hbn; have mx := Aside0.mk (blk_grown RX.out hg (Kd.R_ne RO.out RX.out (by decide))); have mf := Aside0.mk (blk_grown RF.out hg (Kd.R_ne RO.out RF.out (by decide))); have mr := Aside0.mk (blk_grown RR.out hg (Kd.R_ne RO.out RR.out (by decide))); clear hown hbn hg; obtain ⟨Am, cm, em⟩ := Kd.R_slice mo.out; subst em; have hf1 := HFC.out _ mf.out;) | (clear S2; (with_reducible refine gate_builtin (b := .append) (xs := #[.tmp 64, .tmp 67]) rfl ?_); at_builtin; refine print_append_str (w0 := w) w.heap.size rfl (.tmp 64) (.tmp 67) 48 9 5 rfl Tryd.underlying48 Tryd.underlying9 info5 (.slice Am ys.length cm) ys fb rfl rfl (Kd.own_of_R mo.out) mb.out mb.out.size HAP2.out ?_; intro vn wn hown hbn hg; have qo := Aside0.mk (show Kd.R (Kd.int .u8) 5 wn w.heap.size (fun _ => True) vn zs from HZ2.out ▸ Kd.R_of_own hown (fun _ _ => trivial)); have qb := Aside0.mk hbn; have qx := Aside0.mk (blk_grown mx.out hg (Kd.R_ne mo.out mx.out (by decide))); have qf := Aside0.mk (blk_grown mf.out hg (Kd.R_ne mo.out mf.out (by decide))); have qr := Aside0.mk (blk_grown mr.out hg (Kd.R_ne mo.out mr.out (by decide))); clear hown hbn hg; obtain ⟨Aq, cq, eq⟩ := Kd.R_slice qo.out; subst eq; ) | go_in)
          go_roundw
          case rel => exact ⟨i + 1, at_ + 1, zs, rfl, rfl, by omega, by omega, HZL.out, ⟨by rw [HTK.out, h10, ← HZ2.out, ← HZ.out, List.append_assoc]; exact spr_app RS.out (by have := Pure.Spr.row HRI.out HFI.out Pure.Spr.nil; rw [List.append_nil] at this; exact this)⟩, qo, qb, qx, qf, qr⟩
          case measure => simp only [toN]; (try simp); omega
        have hb1 : (c == 32) = false := beq_eq_false_iff_ne.mpr h32
        have hb2 : (c == 10) = false := beq_eq_false_iff_ne.mpr h10
        go_wp2_with (first | (clear S3; (with_reducible refine gate_builtin (b := .append) (xs := #[.tmp 42, .tmp 46]) rfl ?_); at_builtin; refine Kd.R_append (Kd.int .u8) (w0 := w) w.heap.size rfl (.tmp 42) (.tmp 46) 48 5 (.int .u8 0) 1 rfl Tryd.underlying48 info5 rfl (by decide) (by omega) (.slice Ax xs.length cx) xs c [.int .u8 c] (fun _ => True) (fun _ => False) rfl rfl ?aP (fun _ hk => hk.elim) ?aF ?aO ?aB ?aS ?aL ?_; (case aP => exact rfl); (case aB => exact RW.out); (case aF => exact fun _ _ => trivial); (case aO => exact RO.out); (case aS => exact RW.out.size); (case aL => omega); intro v33 w5 ho hb hg hat2; have mo := Aside0.mk ho; have mb := Aside0.mk hb; have mx := Aside0.mk (blk_grown RX.out hg (Kd.R_ne RO.out RX.out (by decide))); have mf := Aside0.mk (blk_grown RF.out hg (Kd.R_ne RO.out RF.out (by decide))); have mr := Aside0.mk (blk_grown RR.out hg (Kd.R_ne RO.out RR.out (by decide))); clear ho hb hg hat2) | go_in)
        go_roundw
        case rel => exact ⟨i + 1, at_, xs ++ [c], rfl, rfl, by omega, by omega, by rw [List.length_append, List.length_singleton]; omega, ⟨by rw [HTK.out]; exact spr_app RS.out (.chr h32 h10 .nil)⟩, mo, mb, mx, mf, mr⟩
        case measure => simp only [toN]; (try simp); omega
      · have hgp : ((nG : Int) > 0) = True := eq_true (by omega)
        have hgd : decide ((nG : Int) > 0) = true := decide_eq_true (by omega)
        have hgz : ((nG : Int) = 0) = False := eq_false (by omega)
        have hgz2 : ((nG : Int) == 0) = false := beq_eq_false_iff_ne.mpr (by omega)
        obtain ⟨hrG, hu8⟩ := HR1.out
        obtain ⟨j, hj⟩ : ∃ j : Nat, j = at_ % nG := ⟨_, rfl⟩
        have hjl : j < nG := by rw [hj]; exact Nat.mod_lt _ (by omega)
        obtain ⟨ad, eA, hcj⟩ := Kd.at_int (Kd.C_below hrG RW.out) (j : Int) (by omega) (by rw [HN1.out]; omega)
        subst eA
        obtain ⟨g, hgv⟩ : ∃ g, rd l1 (j : Int) = g := ⟨_, rfl⟩
        have hg8 : 0 ≤ g ∧ g ≤ 255 := by
          have hjl2 : j < l1.length := by rw [HN1.out]; exact hjl
          have : rd l1 (j : Int) = l1[j] := by
            unfold rd
            rw [Int.toNat_natCast, List.getD_eq_getElem?_getD, List.getElem?_eq_getElem hjl2]; rfl
          rw [← hgv, this]
          exact hu8 _ (List.getElem_mem _)
        rw [hgv, Int.toNat_natCast] at hcj
        obtain ⟨k, hk⟩ : ∃ k : Nat, (k : Int) = g % 6 := ⟨(g % 6).toNat, by omega⟩
        have hk6 : k < 6 := by omega
        have hm1 : Int.tmod (at_ : Int) (nG : Int) = (j : Int) := by rw [hj, Int.tmod_eq_emod_of_nonneg (by omega)]; omega
        have hm2 : Int.tmod g 6 = (k : Int) := by rw [Int.tmod_eq_emod_of_nonneg hg8.1]; omega
        have hj0 : (0 ≤ (j : Int)) = True := eq_true (by omega)
        have hj1 : ((j : Int) < (nG : Int)) = True := eq_true (by omega)
        have hk0 : (0 ≤ (k : Int)) = True := eq_true (by omega)
        have hk1 : ((k : Int) < 6) = True := eq_true (by omega)
        have hwk : wrap64 (k : Int) = (k : Int) := w64 (by omega) (by omega)
        obtain ⟨fb, hfb⟩ : ∃ fb, FB k = fb := ⟨_, rfl⟩
        obtain ⟨rb, hrb⟩ : ∃ rb, RB k = rb := ⟨_, rfl⟩
        have hfi := fb_in k hk6
        have hri := rb_in k hk6
        rw [hfb] at hfi
        rw [hrb] at hri
        have HFI := Aside0.mk hfi.1
        have HRI := Aside0.mk hri.1
        have hfs := hfi.2
        have hrs := hri.2
        clear hfi hri
        have hfc : ∀ W : World, W.heap[gf]? = some (.cells fillC 49 (0, 0)) → W.cell? ⟨gf, k, none⟩ = some (.string fb) := fun W hW => by rw [Lib.cell_of_heap hW, ← hfb]; exact fill_at _ (by omega)
        have hrc : ∀ W : World, W.heap[gr]? = some (.cells rowsC 49 (0, 0)) → W.cell? ⟨gr, k, none⟩ = some (.string rb) := fun W hW => by rw [Lib.cell_of_heap hW, ← hrb]; exact rows_at _ (by omega)
        have HFC := Aside0.mk hfc
        have HRC := Aside0.mk hrc
        have hf0 := hfc wr RF.out
        have hr0 := hrc wr RR.out
        clear hfc hrc hfb hrb
        clear hj hk hgv hrG hu8 hjl hk6 hg8
        by_cases h32 : c = 32
        · have hb1 : (c == 32) = true := beq_iff_eq.mpr h32
          obtain ⟨zs, hzs⟩ : ∃ zs, xs ++ bytesOf fb = zs := ⟨_, rfl⟩
          have HZ := Aside0.mk hzs
          have HAP := Aside0.mk (show xs.length + fb.size ≤ 140737488355328 by omega)
          have HZL := Aside0.mk (show zs.length ≤ 17 * (i + 1) by rw [← hzs, List.length_append, bytesOf_length]; omega)
          clear hzs
          go_wp2_with (first | (clear S1; (with_reducible refine gate_builtin (b := .append) (xs := #[.tmp 50, .tmp 53]) rfl ?_); at_builtin; refine print_append_str (w0 := w) w.heap.size rfl (.tmp 50) (.tmp 53) 48 9 5 rfl Tryd.underlying48 Tryd.underlying9 info5 (.slice Ax xs.length cx) xs fb rfl rfl (Kd.own_of_R RO.out) RW.out RW.out.size HAP.out ?_; intro vn wn hown hbn hg; have mo := Aside0.mk (show Kd.R (Kd.int .u8) 5 wn w.heap.size (fun _ => True) vn zs from HZ.out ▸ Kd.R_of_own hown (fun _ _ => trivial)); have mb := Aside0.mk hbn; have mx := Aside0.mk (blk_grown RX.out hg (Kd.R_ne RO.out RX.out (by decide))); have mf := Aside0.mk (blk_grown RF.out hg (Kd.R_ne RO.out RF.out (by decide))); have mr := Aside0.mk (blk_grown RR.out hg (Kd.R_ne RO.out RR.out (by decide))); clear hown hbn hg; obtain ⟨Am, cm, em⟩ := Kd.R_slice mo.out; subst em; ) | go_in)
          go_roundw
          case rel => exact ⟨i + 1, at_ + 1, zs, rfl, rfl, by omega, by omega, HZL.out, ⟨by rw [HTK.out, h32, ← HZ.out]; exact spr_app RS.out (by have := Pure.Spr.gap HFI.out Pure.Spr.nil; rw [List.append_nil] at this; exact this)⟩, mo, mb, mx, mf, mr⟩
          case measure => simp only [toN]; (try simp); omega
        by_cases h10 : c = 10
        · have hb1 : (c == 32) = false := beq_eq_false_iff_ne.mpr h32
          have hb2 : (c == 10) = true := beq_iff_eq.mpr h10
          obtain ⟨ys, hys⟩ : ∃ ys, xs ++ bytesOf rb = ys := ⟨_, rfl⟩
          have HZ := Aside0.mk hys
          obtain ⟨zs, hzs⟩ : ∃ zs, ys ++ bytesOf fb = zs := ⟨_, rfl⟩
          have HZ2 := Aside0.mk hzs
          have hyl : ys.length ≤ 17 * i + 14 := by rw [← hys, List.length_append, bytesOf_length]; omega
          have HAP := Aside0.mk (show xs.length + rb.size ≤ 140737488355328 by omega)
          have HAP2 := Aside0.mk (show ys.length + fb.size ≤ 140737488355328 by omega)
          have HZL := Aside0.mk (show zs.length ≤ 17 * (i + 1) by rw [← hzs, List.length_append, bytesOf_length]; omega)
          clear hys hzs
          go_wp2_with (first | (clear S1; (with_reducible refine gate_builtin (b := .append) (xs := #[.tmp 59, .tmp 62]) rfl ?_); at_builtin; refine print_append_str (w0 := w) w.heap.size rfl (.tmp 59) (.tmp 62) 48 9 5 rfl Tryd.underlying48 Tryd.underlying9 info5 (.slice Ax xs.length cx) xs rb rfl rfl (Kd.own_of_R RO.out) RW.out RW.out.size HAP.out ?_; intro vn wn hown hbn hg; have mo := Aside0.mk (show Kd.R (Kd.int .u8) 5 wn w.heap.size (fun _ => True) vn ys from HZ.out ▸ Kd.R_of_own hown (fun _ _ => trivial)); have mb := Aside0.mk hbn; have mx := Aside0.mk (blk_grown RX.out hg (Kd.R_ne RO.out RX.out (by decide))); have mf := Aside0.mk (blk_grown RF.out hg (Kd.R_ne RO.out RF.out (by decide))); have mr := Aside0.mk (blk_grown RR.out hg (Kd.R_ne RO.out RR.out (by decide))); clear hown hbn hg; obtain ⟨Am, cm, em⟩ := Kd.R_slice mo.out; subst em; have hf1 := HFC.out _ mf.out;) | (clear S2; (with_reducible refine gate_builtin (b := .append) (xs := #[.tmp 64, .tmp 67]) rfl ?_); at_builtin; refine print_append_str (w0 := w) w.heap.size rfl (.tmp 64) (.tmp 67) 48 9 5 rfl Tryd.underlying48 Tryd.underlying9 info5 (.slice Am ys.length cm) ys fb rfl rfl (Kd.own_of_R mo.out) mb.out mb.out.size HAP2.out ?_; intro vn wn hown hbn hg; have qo := Aside0.mk (show Kd.R (Kd.int .u8) 5 wn w.heap.size (fun _ => True) vn zs from HZ2.out ▸ Kd.R_of_own hown (fun _ _ => trivial)); have qb := Aside0.mk hbn; have qx := Aside0.mk (blk_grown mx.out hg (Kd.R_ne mo.out mx.out (by decide))); have qf := Aside0.mk (blk_grown mf.out hg (Kd.R_ne mo.out mf.out (by decide))); have qr := Aside0.mk (blk_grown mr.out hg (Kd.R_ne mo.out mr.out (by decide))); clear hown hbn hg; obtain ⟨Aq, cq, eq⟩ := Kd.R_slice qo.out; subst eq; ) | go_in)
          go_roundw
          case rel => exact ⟨i + 1, at_ + 1, zs, rfl, rfl, by omega, by omega, HZL.out, ⟨by rw [HTK.out, h10, ← HZ2.out, ← HZ.out, List.append_assoc]; exact spr_app RS.out (by have := Pure.Spr.row HRI.out HFI.out Pure.Spr.nil; rw [List.append_nil] at this; exact this)⟩, qo, qb, qx, qf, qr⟩
          case measure => simp only [toN]; (try simp); omega
        have hb1 : (c == 32) = false := beq_eq_false_iff_ne.mpr h32
        have hb2 : (c == 10) = false := beq_eq_false_iff_ne.mpr h10
        go_wp2_with (first | (clear S3; (with_reducible refine gate_builtin (b := .append) (xs := #[.tmp 42, .tmp 46]) rfl ?_); at_builtin; refine Kd.R_append (Kd.int .u8) (w0 := w) w.heap.size rfl (.tmp 42) (.tmp 46) 48 5 (.int .u8 0) 1 rfl Tryd.underlying48 info5 rfl (by decide) (by omega) (.slice Ax xs.length cx) xs c [.int .u8 c] (fun _ => True) (fun _ => False) rfl rfl ?aP (fun _ hk => hk.elim) ?aF ?aO ?aB ?aS ?aL ?_; (case aP => exact rfl); (case aB => exact RW.out); (case aF => exact fun _ _ => trivial); (case aO => exact RO.out); (case aS => exact RW.out.size); (case aL => omega); intro v33 w5 ho hb hg hat2; have mo := Aside0.mk ho; have mb := Aside0.mk hb; have mx := Aside0.mk (blk_grown RX.out hg (Kd.R_ne RO.out RX.out (by decide))); have mf := Aside0.mk (blk_grown RF.out hg (Kd.R_ne RO.out RF.out (by decide))); have mr := Aside0.mk (blk_grown RR.out hg (Kd.R_ne RO.out RR.out (by decide))); clear ho hb hg hat2) | go_in)
        go_roundw
        case rel => exact ⟨i + 1, at_, xs ++ [c], rfl, rfl, by omega, by omega, by rw [List.length_append, List.length_singleton]; omega, ⟨by rw [HTK.out]; exact spr_app RS.out (.chr h32 h10 .nil)⟩, mo, mb, mx, mf, mr⟩
        case measure => simp only [toN]; (try simp); omega
    · obtain rfl : i = T.size := by omega
      have hS := RS.out
      rw [List.take_of_length_le (by rw [bytesOf_length]; exact Nat.le_refl _), HTb.out] at hS
      obtain ⟨U, hU⟩ : ∃ U, strOfNums xs = U := ⟨_, rfl⟩
      have hxr : ∀ x ∈ xs, 0 ≤ x ∧ x ≤ 255 := spr_range hS (Pure.print_range _ _ _ _ _ _ _)
      have hUb : bytesOf U = xs := by rw [← hU]; exact bytesOf_str _ hxr
      have hUs : U.size ≤ 1000000000 := by rw [← bytesOf_length, hUb]; omega
      obtain ⟨kP, hP⟩ := (Pure.parse_P U hUs).rounds
      have hPP : Pure.parsP U = Pure.goodP ⟨a0_0, a0_1, a0_2, a0_3, a0_4, a0_5⟩ (l0_6.map Pure.plO) := by
        unfold Pure.parsP
        rw [hUb]
        exact Pure.spr_print ⟨a0_0, a0_1, a0_2, a0_3, a0_4, a0_5⟩ l0_6 HOk.out xs hS
      rw [hPP] at hP
      have HPP := Aside0.mk (show script_Parse.f kP U = some (a0_0, a0_1, a0_2, a0_3, a0_4, a0_5, l0_6.map Pure.plO, 0, 0) from hP)
      obtain ⟨kN, hN⟩ := (Pure.plain_ev a0_0 a0_1 a0_2 a0_3 a0_4 a0_5 l0_6 (by have := HOk.out.2.1; omega)).rounds
      have HNN := Aside0.mk hN
      obtain ⟨kE, hE⟩ := (Pure.equal_ev a0_0 a0_1 a0_2 a0_3 a0_4 a0_5 (l0_6.map Pure.plO) (by rw [List.length_map]; have := HOk.out.2.1; omega)).rounds
      have HEE := Aside0.mk hE
      have hcv := own_string (P := Tryd.prog) Tryd.underlying48 Tryd.underlying5 Tryd.underlying9 (Kd.own_of_R RO.out)
      rw [hU] at hcv
      clear hS hU hxr hUb hUs hP hPP hN hE hit
      obtain ⟨L2, hL2⟩ : ∃ L2, l0_6.map Pure.plO = L2 := ⟨_, rfl⟩
      rw [hL2] at HPP HNN HEE
      clear hL2
      have S4 : True := trivial
      go_wp2_with (first | (clear S1; go_at_call 23; refine (script_Parse.calls kP U _ _ _ _ _ _ _ _ _ _ (tab_keep hTab RW.out) (tabE_keep hTabE RW.out) (tabM_keep hTabM RW.out) HPP.out).mono ?_; rintro e w9 ⟨v9, rfl, ho9, hb9⟩; have m0 := Aside0.mk (blk_below RX.out hb9); have m1 := Aside0.mk (below_step RW.out hb9); have m2 := Aside0.mk (Kd.R_lower ho9 RW.out.size); clear ho9 hb9; obtain ⟨A9, c9, e9⟩ := Kd.R_slice m2.out; subst e9) | (clear S2; (with_reducible refine gate_dst (N := 12) rfl ?_); refine box_event ?hg (N := 12) ?hd (cs := #[.int .i64 0, .int .i64 0, .int .i64 0, .int .i64 0, .int .i64 0, .int .i64 0, .slice none 0 0]) (t := 26) ?hr ?_; (case hd => rfl); (case hg => rfl); (case hr => first | (go_simp; done) | (go_simp; rfl)); intro gt hgt w10 hbox hb10; have p0 := Aside0.mk hbox; have p1 := Aside0.mk (blk_below m0.out hb10); have p2 := Aside0.mk (below_step m1.out hb10); have p3 := Aside0.mk (show w.heap.size ≤ gt by rw [hgt]; exact m1.out.size); have p4 := Aside0.mk (show gx ≠ gt by rw [hgt]; exact Nat.ne_of_lt (blk_lt m0.out)); have p5 := Aside0.mk (Kd.R_below m2.out hb10); clear hbox hb10 hgt) | (clear S3; refine st26at (g := gt) rfl rfl rfl rfl rfl p0.out rfl rfl (by first | rfl | (simp [Value.oneCell'])) ?_; intro w11 h11 hk11 hb11; have q0 := Aside0.mk h11; have q1 := Aside0.mk (hk11 _ _ p1.out p4.out); have q2 := Aside0.mk (hb11 _ _ p2.out p3.out); have q3 := Aside0.mk (R_other p5.out p0.out hk11); clear h11 hk11 hb11) | go_in)
      have q4 := Aside0.mk (blk_drew q1.out)
      have q5 := Aside0.mk (blk_drew q0.out)
      have q6 := Aside0.mk (Kd.R_drew q3.out)
      have q7 := Aside0.mk (below_drew q2.out)
      have x0 : w11.cell? ⟨gx, 0, none⟩ = some (.int .i64 a0_0) := by rw [Lib.cell_of_heap q1.out]; rfl
      have x1 : w11.cell? ⟨gx, 1, none⟩ = some (.int .i64 a0_1) := by rw [Lib.cell_of_heap q1.out]; rfl
      have x2 : w11.cell? ⟨gx, 2, none⟩ = some (.int .i64 a0_2) := by rw [Lib.cell_of_heap q1.out]; rfl
      have x3 : w11.cell? ⟨gx, 3, none⟩ = some (.int .i64 a0_3) := by rw [Lib.cell_of_heap q1.out]; rfl
      have x4 : w11.cell? ⟨gx, 4, none⟩ = some (.int .i64 a0_4) := by rw [Lib.cell_of_heap q1.out]; rfl
      have x5 : w11.cell? ⟨gx, 5, none⟩ = some (.int .i64 a0_5) := by rw [Lib.cell_of_heap q1.out]; rfl
      have x6 : w11.cell? ⟨gx, 6, none⟩ = some (.slice A0_6 l0_6.length c0_6) := by rw [Lib.cell_of_heap q1.out]; rfl
      have y0 : w11.cell? ⟨gt, 0, none⟩ = some (.int .i64 a0_0) := by rw [Lib.cell_of_heap q0.out]; rfl
      have y1 : w11.cell? ⟨gt, 1, none⟩ = some (.int .i64 a0_1) := by rw [Lib.cell_of_heap q0.out]; rfl
      have y2 : w11.cell? ⟨gt, 2, none⟩ = some (.int .i64 a0_2) := by rw [Lib.cell_of_heap q0.out]; rfl
      have y3 : w11.cell? ⟨gt, 3, none⟩ = some (.int .i64 a0_3) := by rw [Lib.cell_of_heap q0.out]; rfl
      have y4 : w11.cell? ⟨gt, 4, none⟩ = some (.int .i64 a0_4) := by rw [Lib.cell_of_heap q0.out]; rfl
      have y5 : w11.cell? ⟨gt, 5, none⟩ = some (.int .i64 a0_5) := by rw [Lib.cell_of_heap q0.out]; rfl
      have y6 : w11.cell? ⟨gt, 6, none⟩ = some (.slice A9 L2.length c9) := by rw [Lib.cell_of_heap q0.out]; rfl
      go_region_with (first | (refine (barrowlaw24_plain.calls kN a0_0 a0_1 a0_2 a0_3 a0_4 a0_5 A0_6 c0_6 l0_6 a0_0 a0_1 a0_2 a0_3 a0_4 a0_5 L2 _ (Kd.C_below HR0.out q7.out) HC0.out HNN.out).mono ?_; rintro e w12 ⟨v12, rfl, ho12, hb12⟩; have u0 := Aside0.mk (blk_below q5.out hb12); have u2 := Aside0.mk (below_step q7.out hb12); have u3 := Aside0.mk (Kd.R_below q6.out hb12); have u4 := Aside0.mk ho12; have z0 : w12.cell? ⟨gt, 0, none⟩ = some (.int .i64 a0_0) := (by rw [Lib.cell_of_heap u0.out]; rfl); have z1 : w12.cell? ⟨gt, 1, none⟩ = some (.int .i64 a0_1) := (by rw [Lib.cell_of_heap u0.out]; rfl); have z2 : w12.cell? ⟨gt, 2, none⟩ = some (.int .i64 a0_2) := (by rw [Lib.cell_of_heap u0.out]; rfl); have z3 : w12.cell? ⟨gt, 3, none⟩ = some (.int .i64 a0_3) := (by rw [Lib.cell_of_heap u0.out]; rfl); have z4 : w12.cell? ⟨gt, 4, none⟩ = some (.int .i64 a0_4) := (by rw [Lib.cell_of_heap u0.out]; rfl); have z5 : w12.cell? ⟨gt, 5, none⟩ = some (.int .i64 a0_5) := (by rw [Lib.cell_of_heap u0.out]; rfl); have z6 : w12.cell? ⟨gt, 6, none⟩ = some (.slice A9 L2.length c9) := (by rw [Lib.cell_of_heap u0.out]; rfl); clear ho12 hb12; obtain ⟨A12, c12, e12⟩ := Kd.R_slice u4.out; subst e12) | (refine (barrowref24_Equal.calls kE a0_0 a0_1 a0_2 a0_3 a0_4 a0_5 A9 c9 L2 a0_0 a0_1 a0_2 a0_3 a0_4 a0_5 A12 c12 L2 true _ (Kd.R_reads' u3.out).2.2 (Kd.R_reads' u3.out).2.1 (Kd.R_reads' u4.out).2.2 (Kd.R_reads' u4.out).2.1 HEE.out).mono ?_; rintro e w13 ⟨rfl, hb13⟩; have u5 := Aside0.mk (below_step u2.out hb13); clear hb13))
      all_goals
        go_wp2
        go_ret
        exact ⟨rfl, u5.out⟩
end Go.Proofs.YtlmdhpfggobogaaDoor.G
