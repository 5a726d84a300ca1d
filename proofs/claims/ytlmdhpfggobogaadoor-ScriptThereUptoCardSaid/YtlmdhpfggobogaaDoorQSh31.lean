import Derived.Test.YtlmdhpfggobogaaDoorQSh27
import Derived.Test.YtlmdhpfggobogaaDoorQSh28
import Derived.Test.YtlmdhpfggobogaaDoorQSh26
import Derived.Test.YtlmdhpfggobogaaDoorQSh29
import Derived.Test.YtlmdhpfggobogaaDoorQSh23
import Derived.Test.YtlmdhpfggobogaaDoorQSh24
/- Parse, line by line: the program's answer. -/
namespace Go.Proofs.YtlmdhpfggobogaaDoor.Pure
open Go.Proofs.YtlmdhpfggobogaaDoor.G hiding bytesOf_length
open Go.RowKit Go.Proofs.YtlmdhpfggobogaaDoorW.PrintWords Go.Proofs.YtlmdhpfggobogaaDoorW.PrintLast
set_option linter.unusedVariables false
abbrev PT := Int × Int × Int × Int × Int × Int × List S29 × Int × Int
def badP (n : Int) : PT := (0, 0, 0, 0, 0, 0, [], n, 17)
def goodP (h : S23) (ops : List S29) : PT := (h.f0, h.f1, h.f2, h.f3, h.f4, h.f5, ops, 0, 0)
def opOf (r : Int × Int × Int × Int × ByteArray × Int × Int × Bool) : S29 := ⟨r.1, r.2.1, r.2.2.1, r.2.2.2.1, r.2.2.2.2.1, r.2.2.2.2.2.1, r.2.2.2.2.2.2.1⟩
def hdOf (r : Int × Int × Int × Int × Int × Int × Bool) : S23 := ⟨r.1, r.2.1, r.2.2.1, r.2.2.2.1, r.2.2.2.2.1, r.2.2.2.2.2.1⟩
/-- What a line does: none: it is wrong. -/
def lineP (b : Bool) (h : S23) (ops : List S29) (l : List Int) : Option (Bool × S23 × List S29) :=
  if silI l = true then some (b, h, ops) else match run false l .gap [] with
    | some (w :: ws) =>
      if b = true then (if (stepP (strOfNums w) (ws.map strOfNums)).2.2.2.2.2.2.2 = true then some (true, h, ops ++ [opOf (stepP (strOfNums w) (ws.map strOfNums))]) else none)
      else (if (headN (strOfNums w) (ws.map strOfNums)).2.2.2.2.2.2 = true then some (true, hdOf (headN (strOfNums w) (ws.map strOfNums)), ops) else none)
    | _ => none
def parsC : List (List Int) → Nat → Bool → S23 → List S29 → PT
  | [], i, b, h, ops => if b = true then goodP h ops else badP ((i + 1 : Nat) : Int)
  | l :: t, i, b, h, ops => match lineP b h ops l with
    | some r => parsC t (i + 1) r.1 r.2.1 r.2.2
    | none => badP ((i + 1 : Nat) : Int)
/-- A text's lines; no empty one at its end. -/
def linesT : List Int → List Int → List (List Int)
  | cur, [] => if cur = [] then [] else [cur]
  | cur, c :: t => if c = 10 then cur :: linesT [] t else linesT (cur ++ [c]) t
def trimL (ls : List (List Int)) : List (List Int) := if ls.getLast? = some [] then ls.dropLast else ls
theorem linesA_ne : ∀ (l cur : List Int), linesA cur l ≠ []
  | [], cur => by simp [linesA]
  | c :: t, cur => by
    unfold linesA
    split
    · simp
    · exact linesA_ne t _
theorem trim_lines : ∀ (l cur : List Int), trimL (linesA cur l) = linesT cur l
  | [], cur => by
    unfold linesA linesT trimL
    by_cases h : cur = []
    · rw [if_pos h, h]; rfl
    · rw [if_neg h, if_neg (by simpa using h)]
  | c :: t, cur => by
    unfold linesA linesT
    by_cases h : c = 10
    · rw [if_pos h, if_pos h, ← trim_lines t []]
      have hne := linesA_ne t []
      unfold trimL
      rw [List.getLast?_cons_of_ne_nil hne, List.dropLast_cons_of_ne_nil hne]
      split <;> rfl
    · rw [if_neg h, if_neg h]
      exact trim_lines t _
/-! ### The program's Parse -/
theorem readH_N (i : Nat) : ∀ (xs : List ByteArray) (h : S23), (∀ y ∈ xs, y.size ≤ 8796093022208) → readH i xs h = some (readN i xs h)
  | [], h, _ => rfl
  | x :: xs, h, hx => by
    have h1 := hx x (by simp)
    have hn : script_readNumber.f x = some (rdNum x) := by unfold script_readNumber.f; rw [if_pos (by omega)]
    unfold readH readN numR
    rw [hn, Option.bind_some]
    by_cases hr : (rdNum x).2 = true
    · rw [if_pos hr, if_pos hr]
      exact readH_N (i + 1) xs _ (fun y hy => hx y (by simp [hy]))
    · rw [if_neg hr, if_neg hr]
theorem head_P (x : ByteArray) (xs : List ByteArray) (hl : xs.length < 4611686018427387903) (hx : ∀ y ∈ xs, y.size ≤ 8796093022208) : script_head.f (x :: xs) = some (headN x xs) := by
  show headC x xs = _
  unfold headC headN
  rw [if_pos (by rw [List.length_cons]; omega), readH_N 0 xs zeroH hx]
  by_cases h1 : (x.toList == storeB.toList) = true
  · rw [if_pos h1, if_pos h1]
    split <;> rfl
  · rw [if_neg h1, if_neg h1, ite_self]
theorem parse_l0 (Ls : List ByteArray) (hLs : Ls.length < 1099511627776) (hsz : ∀ s ∈ Ls, s.size < 8796093022208) : ∀ (d i : Nat) (b : Bool) (h : S23) (ops : List S29), i + d = Ls.length → ops.length ≤ i →
    Ev (fun k => script_Parse.l0 k b Ls Ls (Ls.length : Int) i h.f0 h.f1 h.f2 h.f3 h.f4 h.f5 ops) (parsC ((Ls.drop i).map bytesOf) i b h ops)
  | 0, i, b, h, ops, hd, ho => by
    rw [List.drop_eq_nil_of_le (by omega)]
    refine Ev.step (f := fun _ => some (if b = true then goodP h ops else badP ((i + 1 : Nat) : Int))) (fun k => ?_) (Ev.now _)
    simp only [script_Parse.l0]
    rw [if_neg (by omega), show (Ls.length : Int) = (i : Int) by omega, w64_nat i (by omega)]
    split <;> rfl
  | d + 1, i, b, h, ops, hd, ho => by
    have hi : i < Ls.length := by omega
    have hrd : rdOf ByteArray.empty Ls (i : Int) = Ls[i] := by
      unfold rdOf
      rw [Int.toNat_natCast, List.getD_eq_getElem?_getD, List.getElem?_eq_getElem hi]; rfl
    have hs := hsz Ls[i] (List.getElem_mem hi)
    rw [List.drop_eq_getElem_cons hi, List.map_cons]
    generalize Ls[i] = s at hrd hs
    have hwn := w64_nat i (by omega)
    have next : ∀ (b' : Bool) (h' : S23) (ops' : List S29), ops'.length ≤ i + 1 → Ev (fun k => script_Parse.l0 k b' Ls Ls (Ls.length : Int) ((i + 1 : Nat) : Int) h'.f0 h'.f1 h'.f2 h'.f3 h'.f4 h'.f5 ops') (parsC ((Ls.drop (i + 1)).map bytesOf) (i + 1) b' h' ops') :=
      fun b' h' ops' ho' => parse_l0 Ls hLs hsz d (i + 1) b' h' ops' (by omega) ho'
    obtain ⟨L, hL⟩ := words_said s hs
    have st : ∀ k, script_Parse.l0 (k + 1) b Ls Ls (Ls.length : Int) i h.f0 h.f1 h.f2 h.f3 h.f4 h.f5 ops = (script_words.f k s).bind fun bt111 => (if bt111.2 = true then (script_Parse.j2 k b Ls i bt111.1 bt111.2 Ls (Ls.length : Int) i ((bt111.1.length : Int) == 0) h.f0 h.f1 h.f2 h.f3 h.f4 h.f5 ops) else (script_Parse.j2 k b Ls i bt111.1 bt111.2 Ls (Ls.length : Int) i false h.f0 h.f1 h.f2 h.f3 h.f4 h.f5 ops)) := by
      intro k
      simp only [script_Parse.l0]
      rw [if_pos (by omega), if_pos (by omega), if_pos (by omega), hrd]
    refine Ev.step st ?_
    refine Ev.bind hL ?_
    unfold parsC lineP
    by_cases hsil : silI (bytesOf s) = true
    · rw [if_pos hsil, run_silent _ hsil]
      refine Ev.congr (f := fun k => script_Parse.j2 k b Ls i [] true Ls (Ls.length : Int) i true h.f0 h.f1 h.f2 h.f3 h.f4 h.f5 ops) (fun k => by rw [if_pos rfl]; rfl) ?_
      refine Ev.step (fun k => ?_) (next b h ops (by omega))
      simp only [script_Parse.j2]
      rw [if_pos trivial, hwn]
    · rw [if_neg hsil]
      obtain ⟨e1, e2⟩ := run_loud (bytesOf s) (by simpa using hsil)
      rw [e1]
      have bad : ∀ (M : List ByteArray), Ev (fun k => script_Parse.j3 k b Ls i M false Ls (Ls.length : Int) i false h.f0 h.f1 h.f2 h.f3 h.f4 h.f5 ops) (badP ((i + 1 : Nat) : Int)) := by
        intro M
        refine Ev.step (f := fun _ => some (badP ((i + 1 : Nat) : Int))) (fun k => ?_) (Ev.now _)
        simp only [script_Parse.j3]
        rw [if_neg (by decide), if_neg (by decide), hwn]
        rfl
      cases hrun : run false (bytesOf s) .gap [] with
      | none =>
        refine Ev.congr (f := fun k => script_Parse.j2 k b Ls i L false Ls (Ls.length : Int) i false h.f0 h.f1 h.f2 h.f3 h.f4 h.f5 ops) (fun k => by rw [if_neg Bool.false_ne_true]) ?_
        refine Ev.step (fun k => ?_) (bad L)
        simp only [script_Parse.j2]
        rw [if_neg (by decide), if_neg (by decide)]
      | some r =>
        cases r with
        | nil => exact absurd rfl (e2 [] hrun)
        | cons w ws =>
          obtain ⟨b1, b2⟩ := words_small s hs hrun
          refine Ev.congr (f := fun k => script_Parse.j2 k b Ls i (strOfNums w :: ws.map strOfNums) true Ls (Ls.length : Int) i false h.f0 h.f1 h.f2 h.f3 h.f4 h.f5 ops) (fun k => ?_) ?_
          · show (if true = true then _ else _) = _
            rw [if_pos rfl]
            show script_Parse.j2 k b Ls i (strOfNums w :: ws.map strOfNums) true Ls (Ls.length : Int) i (((strOfNums w :: ws.map strOfNums).length : Int) == 0) _ _ _ _ _ _ _ = _
            rw [show (((strOfNums w :: ws.map strOfNums).length : Int) == 0) = false from by rw [beq_eq_false_iff_ne, List.length_cons]; omega]
          · refine Ev.step (f := fun k => script_Parse.j3 k b Ls i (strOfNums w :: ws.map strOfNums) true Ls (Ls.length : Int) i (!b) h.f0 h.f1 h.f2 h.f3 h.f4 h.f5 ops) (fun k => by simp only [script_Parse.j2]; rw [if_neg (by decide), if_pos trivial]) ?_
            cases b with
            | false =>
              dsimp only
              rw [if_neg (by decide)]
              have hh := head_P (strOfNums w) (ws.map strOfNums) b1 b2
              have st3 : ∀ k, script_Parse.j3 (k + 1) false Ls i (strOfNums w :: ws.map strOfNums) true Ls (Ls.length : Int) i (!false) h.f0 h.f1 h.f2 h.f3 h.f4 h.f5 ops = (if (headN (strOfNums w) (ws.map strOfNums)).2.2.2.2.2.2 = true then script_Parse.l0 k true Ls Ls (Ls.length : Int) ((i + 1 : Nat) : Int) (headN (strOfNums w) (ws.map strOfNums)).1 (headN (strOfNums w) (ws.map strOfNums)).2.1 (headN (strOfNums w) (ws.map strOfNums)).2.2.1 (headN (strOfNums w) (ws.map strOfNums)).2.2.2.1 (headN (strOfNums w) (ws.map strOfNums)).2.2.2.2.1 (headN (strOfNums w) (ws.map strOfNums)).2.2.2.2.2.1 ops else some (badP ((i + 1 : Nat) : Int))) := by
                intro k
                simp only [script_Parse.j3]
                rw [if_pos (by decide), hh, Option.bind_some, hwn]
                rfl
              refine Ev.step st3 ?_
              generalize headN (strOfNums w) (ws.map strOfNums) = r
              by_cases hr : r.2.2.2.2.2.2 = true
              · rw [if_pos hr]
                exact Ev.congr (fun k => if_pos hr) (next true (hdOf r) ops (by omega))
              · rw [if_neg hr]
                exact Ev.congr (fun k => if_neg hr) (Ev.now _)
            | true =>
              dsimp only
              rw [if_pos rfl]
              have hst := step_P (strOfNums w) (ws.map strOfNums) b1 b2
              have st3 : ∀ k, script_Parse.j3 (k + 1) true Ls i (strOfNums w :: ws.map strOfNums) true Ls (Ls.length : Int) i (!true) h.f0 h.f1 h.f2 h.f3 h.f4 h.f5 ops = (script_step.f k (strOfNums w :: ws.map strOfNums)).bind fun bt123 => (if bt123.2.2.2.2.2.2.2 = true then script_Parse.l0 k true Ls Ls (Ls.length : Int) ((i + 1 : Nat) : Int) h.f0 h.f1 h.f2 h.f3 h.f4 h.f5 (ops ++ [opOf bt123]) else some (badP ((i + 1 : Nat) : Int))) := by
                intro k
                simp only [script_Parse.j3]
                rw [if_neg (by decide), if_pos trivial, hwn]
                congr 1
                funext bt123
                rw [if_pos (by omega)]
                rfl
              refine Ev.step st3 (Ev.bind hst ?_)
              generalize stepP (strOfNums w) (ws.map strOfNums) = r
              by_cases hr : r.2.2.2.2.2.2.2 = true
              · rw [if_pos hr]
                exact Ev.congr (fun k => if_pos hr) (next true h (ops ++ [opOf r]) (by rw [List.length_append, List.length_singleton]; omega))
              · rw [if_neg hr]
                exact Ev.congr (fun k => if_neg hr) (Ev.now _)
def parsP (s : ByteArray) : PT := parsC (linesT [] (bytesOf s)) 0 false zeroH []
theorem linesA_size (B : Nat) : ∀ (l cur : List Int), cur.length + l.length ≤ B → ∀ u ∈ linesA cur l, u.length ≤ B
  | [], cur, h, u, hu => by simp [linesA] at hu; subst hu; simpa using h
  | c :: t, cur, h, u, hu => by
    unfold linesA at hu
    rw [List.length_cons] at h
    split at hu
    · rcases List.mem_cons.1 hu with e | e
      · subst e; omega
      · exact linesA_size B t [] (by simp; omega) u e
    · exact linesA_size B t _ (by simp; omega) u hu
theorem linesA_len : ∀ (l cur : List Int), (linesA cur l).length ≤ l.length + 1
  | [], cur => by simp [linesA]
  | c :: t, cur => by
    unfold linesA
    split
    · have := linesA_len t []; simp; omega
    · have := linesA_len t (cur ++ [c]); simp; omega
theorem parse_P (s : ByteArray) (hs : s.size ≤ 1000000000) : Ev (fun k => script_Parse.f k s) (parsP s) := by
  unfold script_Parse.f
  obtain ⟨Ls, hLs⟩ : ∃ Ls, Lib.splitB nl 0 (Lib.countB s nl) s = Ls := ⟨_, rfl⟩
  have hsp : strings_Split.f s (⟨#[10]⟩ : ByteArray) = some Ls := by
    unfold strings_Split.f
    rw [if_pos ⟨by omega, by decide⟩]
    exact congrArg some hLs
  have hmap : Ls.map bytesOf = linesA [] (bytesOf s) := by rw [← hLs]; exact split_lines _ s (Nat.le_refl _)
  have hne : Ls ≠ [] := by
    intro e
    rw [e] at hmap
    exact linesA_ne _ _ hmap.symm
  have hlen : Ls.length ≤ s.size + 1 := by
    have := congrArg List.length hmap
    rw [List.length_map] at this
    have h2 := linesA_len (bytesOf s) []
    rw [G.bytesOf_length] at h2
    omega
  have hszs : ∀ u ∈ Ls, u.size < 8796093022208 := by
    intro u hu
    have h1 := linesA_size s.size (bytesOf s) [] (by rw [G.bytesOf_length]; simp) (bytesOf u) (by rw [← hmap]; exact List.mem_map.2 ⟨u, hu, rfl⟩)
    rw [G.bytesOf_length] at h1
    omega
  have hpos : 0 < Ls.length := List.length_pos_iff.2 hne
  have hw : wrap64 ((Ls.length : Int) - 1) = ((Ls.length - 1 : Nat) : Int) := by rw [w64 (by omega) (by omega)]; omega
  have hlast : rdOf ByteArray.empty Ls ((Ls.length - 1 : Nat) : Int) = Ls.getLast hne := by
    unfold rdOf
    rw [Int.toNat_natCast, List.getD_eq_getElem?_getD, List.getElem?_eq_getElem (by omega), List.getLast_eq_getElem]; rfl
  have htrim := trim_lines (bytesOf s) []
  rw [← hmap] at htrim
  have hgl : (Ls.map bytesOf).getLast? = some (bytesOf (Ls.getLast hne)) := by
    rw [List.getLast?_map, List.getLast?_eq_some_getLast hne]; rfl
  have go : ∀ Ms : List ByteArray, Ms.length ≤ Ls.length → (∀ u ∈ Ms, u ∈ Ls) → Ms.map bytesOf = linesT [] (bytesOf s) → Ev (fun k => script_Parse.j0 k false Ms 0 0 0 0 0 0) (parsP s) := by
    intro Ms h1 h2 h3
    have := parse_l0 Ms (by omega) (fun u hu => hszs u (h2 u hu)) Ms.length 0 false zeroH [] (by omega) (by simp)
    rw [List.drop_zero, h3] at this
    refine Ev.step (fun k => ?_) this
    simp only [script_Parse.j0]
    rfl
  have pre : ∀ k, ((strings_Split.f s (⟨#[10]⟩ : ByteArray)).bind fun t103 => (if 0 ≤ (wrap64 ((t103.length : Int) - 1)) then (if (wrap64 ((t103.length : Int) - 1)) < (t103.length : Int) then (if (rdOf ByteArray.empty t103 (wrap64 ((t103.length : Int) - 1))).toList = ([] : List UInt8) then (if (wrap64 ((t103.length : Int) - 1)) ≤ (t103.length : Int) then (script_Parse.j0 k false (t103.take ((wrap64 ((t103.length : Int) - 1)) : Int).toNat) 0 0 0 0 0 0) else (none)) else (script_Parse.j0 k false t103 0 0 0 0 0 0)) else (none)) else (none))) = (if (Ls.getLast hne).toList = ([] : List UInt8) then (script_Parse.j0 k false (Ls.take (Ls.length - 1)) 0 0 0 0 0 0) else (script_Parse.j0 k false Ls 0 0 0 0 0 0)) := by
    intro k
    rw [hsp, Option.bind_some, hw, if_pos (by omega), if_pos (by omega), hlast, if_pos (show ((Ls.length - 1 : Nat) : Int) ≤ (Ls.length : Int) by omega), Int.toNat_natCast]
  refine Ev.congr pre ?_
  have hemp : (Ls.getLast hne).toList = ([] : List UInt8) ↔ bytesOf (Ls.getLast hne) = [] := by
    rw [ByteArray.toList_eq]
    unfold bytesOf
    rw [List.map_eq_nil_iff]
  by_cases he : (Ls.getLast hne).toList = ([] : List UInt8)
  · refine Ev.congr (fun k => if_pos he) ?_
    have hb := hemp.1 he
    unfold trimL at htrim
    rw [hgl, hb, if_pos rfl] at htrim
    refine go _ (by rw [List.length_take]; omega) (fun u hu => List.mem_of_mem_take hu) ?_
    rw [← htrim, List.dropLast_eq_take, List.length_map, List.map_take]
  · refine Ev.congr (fun k => if_neg he) ?_
    unfold trimL at htrim
    rw [hgl, if_neg (fun e => he (hemp.2 (Option.some.inj e)))] at htrim
    exact go Ls (Nat.le_refl _) (fun u hu => hu) htrim
end Go.Proofs.YtlmdhpfggobogaaDoor.Pure

/- A printed script is read as the script with plain ops. -/
namespace Go.Proofs.YtlmdhpfggobogaaDoor.Pure
open Go.Proofs.YtlmdhpfggobogaaDoor.G hiding bytesOf_length
open Go.RowKit Go.Proofs.YtlmdhpfggobogaaDoorW.PrintWords Go.Proofs.YtlmdhpfggobogaaDoorW.PrintLast
set_option linter.unusedVariables false
theorem Ev.one {α : Type} {g : Nat → Option α} {a b : α} (h1 : Ev g a) (h2 : Ev g b) : a = b := by
  obtain ⟨K1, h1⟩ := h1
  obtain ⟨K2, h2⟩ := h2
  have e1 := h1 (max K1 K2) (Nat.le_max_left _ _)
  have e2 := h2 (max K1 K2) (Nat.le_max_right _ _)
  rw [e1] at e2
  exact Option.some.inj e2
theorem linesT_app : ∀ (L cur t : List Int), 10 ∉ L → linesT cur (L ++ 10 :: t) = (cur ++ L) :: linesT [] t
  | [], cur, t, _ => by
    show linesT cur (10 :: t) = _
    rw [linesT, if_pos rfl, List.append_nil]
  | c :: L, cur, t, h => by
    have hc : ¬ c = 10 := fun e => h (by rw [e]; simp)
    show linesT cur (c :: (L ++ 10 :: t)) = _
    rw [linesT, if_neg hc, linesT_app L (cur ++ [c]) t (fun hm => h (by simp [hm]))]
    simp
/-! ### An op's line -/
theorem line_no10 (o : S29) : 10 ∉ lineO o := fun h => by
  have := line_C _ _ _ _ _ _ _ 10 h
  omega
theorem line_loud (o : S29) : ¬ silI (lineO o) = true := fun h => by
  have h1 := run_silent _ h
  have h2 := line_run o.f0 o.f1 o.f2 o.f3 o.f4 o.f5 o.f6 true
  have h3 : run true (lineO o) .gap [] = some (bytesOf (shp o.f0).1 :: (bytesOf (shp o.f0).2).map (wordI o.f0 o.f1 o.f2 o.f3 o.f4 o.f5 o.f6)) := h2
  rw [h3] at h1
  exact absurd (Option.some.inj h1) (by simp)
theorem stepP_line (o : S29) (ho : okS o) : stepP (strOfNums (bytesOf (shp o.f0).1)) (((bytesOf (shp o.f0).2).map (wordI o.f0 o.f1 o.f2 o.f3 o.f4 o.f5 o.f6)).map strOfNums) = tupB (plO o) true := by
  have h1 := step_line o ho
  have hs := line_size o ho
  have e : bytesOf (strOfNums (lineO o)) = lineO o := bytesOf_str _ (line_range _ _ _ _ _ _ _)
  have h3 : run false (bytesOf (strOfNums (lineO o))) .gap [] = some (bytesOf (shp o.f0).1 :: (bytesOf (shp o.f0).2).map (wordI o.f0 o.f1 o.f2 o.f3 o.f4 o.f5 o.f6)) := by
    rw [e]; exact line_run o.f0 o.f1 o.f2 o.f3 o.f4 o.f5 o.f6 false
  obtain ⟨b1, b2⟩ := words_small (strOfNums (lineO o)) (by omega) h3
  exact Ev.one (step_P _ _ b1 b2) h1
theorem lineP_op (o : S29) (ho : okS o) (h : S23) (ops : List S29) : lineP true h ops (lineO o) = some (true, h, ops ++ [plO o]) := by
  have h2 : run false (lineO o) .gap [] = some (bytesOf (shp o.f0).1 :: (bytesOf (shp o.f0).2).map (wordI o.f0 o.f1 o.f2 o.f3 o.f4 o.f5 o.f6)) := line_run o.f0 o.f1 o.f2 o.f3 o.f4 o.f5 o.f6 false
  unfold lineP
  rw [if_neg (line_loud o), h2]
  dsimp only
  rw [if_pos rfl, stepP_line o ho]
  rfl
theorem parsC_ops_line (h : S23) : ∀ (l : List S29) (i : Nat) (ops : List S29), (∀ o ∈ l, okS o) → parsC (l.map lineO) i true h ops = goodP h (ops ++ l.map plO)
  | [], i, ops, _ => by
    show parsC [] i true h ops = _
    rw [parsC, if_pos rfl]; simp
  | o :: l, i, ops, ho => by
    show parsC (lineO o :: l.map lineO) i true h ops = _
    rw [parsC, lineP_op o (ho o (by simp))]
    dsimp only
    rw [parsC_ops_line h l (i + 1) _ (fun x hx => ho x (by simp [hx]))]
    simp
/-! ### The head's line -/
def headI (h : S23) : List Int := storeI ++ numsI (headNums h.f0 h.f1 h.f2 h.f3 h.f4 h.f5)
def okH (h : S23) : Prop := ∀ n ∈ headNums h.f0 h.f1 h.f2 h.f3 h.f4 h.f5, inI n
theorem nums_sep (l : List Int) : numsI l = sep (l.map numI) := by
  unfold numsI sep
  rw [List.flatMap_map]
theorem head_no10 (h : S23) : 10 ∉ headI h := by
  intro hm
  rcases List.mem_append.1 hm with hm | hm
  · simp [storeI] at hm
  · obtain ⟨n, _, hm⟩ := List.mem_flatMap.1 hm
    rcases List.mem_cons.1 hm with e | e
    · omega
    · have := (numI_chars n).2 10 e
      omega
theorem okW_store : okW storeI := .inl ⟨by simp [storeI], by decide, by decide⟩
theorem head_run (hs : Bool) (h : S23) : run hs (headI h) .gap [] = some (storeI :: (headNums h.f0 h.f1 h.f2 h.f3 h.f4 h.f5).map numI) := by
  unfold headI
  rw [nums_sep]
  have := run_line hs ((headNums h.f0 h.f1 h.f2 h.f3 h.f4 h.f5).map numI) storeI [] (by decide) okW_store (fun w hw => by
    obtain ⟨n, _, rfl⟩ := List.mem_map.1 hw
    exact okW_num n)
  rw [this]; rfl
theorem head_loud (h : S23) : ¬ silI (headI h) = true := fun hh => by
  have h1 := run_silent _ hh
  rw [head_run] at h1
  exact absurd (Option.some.inj h1) (by simp)
theorem numR_num (v : Int) (h : inI v) : numR (strOfNums (numI v)) = some v := numR_some _ v h (by rw [itoa_word, itoa_bytes])
theorem store_str : strOfNums storeI = storeB := by decide +kernel
theorem headN_line (h : S23) (hk : okH h) : headN (strOfNums storeI) (((headNums h.f0 h.f1 h.f2 h.f3 h.f4 h.f5).map numI).map strOfNums) = outH (some h) := by
  unfold headN
  rw [if_pos (by simp [headNums]), store_str, if_pos (by simp)]
  have k0 := numR_num h.f0 (hk _ (by simp [headNums]))
  have k1 := numR_num h.f1 (hk _ (by simp [headNums]))
  have k2 := numR_num h.f2 (hk _ (by simp [headNums]))
  have k3 := numR_num h.f3 (hk _ (by simp [headNums]))
  have k4 := numR_num h.f4 (hk _ (by simp [headNums]))
  have k5 := numR_num h.f5 (hk _ (by simp [headNums]))
  simp only [headNums, List.map_cons, List.map_nil, readN, k0, k1, k2, k3, k4, k5]
  rfl
theorem lineP_head (h : S23) (hk : okH h) (h0 : S23) (ops : List S29) : lineP false h0 ops (headI h) = some (true, h, ops) := by
  unfold lineP
  rw [if_neg (head_loud h), head_run]
  dsimp only
  rw [if_neg (by decide), headN_line h hk]
  rfl
/-! ### The whole text -/
theorem lines_ops : ∀ l : List S29, linesT [] (l.flatMap opI) = l.map lineO
  | [] => rfl
  | o :: l => by
    have e : (o :: l).flatMap opI = lineO o ++ 10 :: l.flatMap opI := by
      rw [List.flatMap_cons]; unfold opI lineO; simp
    rw [e, linesT_app _ _ _ (line_no10 o), lines_ops l]; rfl
theorem lines_print (h : S23) (l : List S29) : linesT [] (printI h.f0 h.f1 h.f2 h.f3 h.f4 h.f5 l) = headI h :: l.map lineO := by
  have e : printI h.f0 h.f1 h.f2 h.f3 h.f4 h.f5 l = headI h ++ 10 :: l.flatMap opI := by unfold printI headI; simp
  rw [e, linesT_app _ _ _ (head_no10 h), lines_ops]; rfl
theorem print_range (a0 a1 a2 a3 a4 a5 : Int) (l : List S29) : ∀ x ∈ printI a0 a1 a2 a3 a4 a5 l, 0 ≤ x ∧ x ≤ 255 := by
  intro x hx
  unfold printI at hx
  rcases List.mem_append.1 hx with hx | hx
  · rcases List.mem_append.1 hx with hx | hx
    · rcases List.mem_append.1 hx with hx | hx
      · simp [storeI] at hx; omega
      · obtain ⟨n, _, hm⟩ := List.mem_flatMap.1 hx
        rcases List.mem_cons.1 hm with e | e
        · omega
        · have := (numI_chars n).2 x e
          omega
    · simp at hx; omega
  · obtain ⟨o, _, hm⟩ := List.mem_flatMap.1 hx
    unfold opI at hm
    rcases List.mem_append.1 hm with e | e
    · exact line_range _ _ _ _ _ _ _ x e
    · simp at e; omega
theorem parsP_print (h : S23) (l : List S29) (hk : okP h.f0 h.f1 h.f2 h.f3 h.f4 h.f5 l) : parsP (strOfNums (printI h.f0 h.f1 h.f2 h.f3 h.f4 h.f5 l)) = goodP h (l.map plO) := by
  unfold parsP
  rw [bytesOf_str _ (print_range _ _ _ _ _ _ _), lines_print, parsC, lineP_head h hk.1]
  dsimp only
  rw [parsC_ops_line h l 1 [] hk.2.2]; rfl
/-! ### Its size -/
/-- What a list of ops counts: a letter for each byte of its SKUs, one for each op. -/
def wgt (l : List S29) : Nat := (l.map fun o => o.f4.size + 1).sum
theorem lineO_len (o : S29) (ho : okS o) : (lineO o).length ≤ 16 * o.f4.size + 300 := by
  have piece : ∀ c, (pieceI o.f0 o.f1 o.f2 o.f3 o.f4 o.f5 o.f6 c).length ≤ 4 * o.f4.size + 30 := by
    intro c
    unfold pieceI
    have h1 := numI_len _ (fldV_in ho c)
    have h2 := skuI_len (bytesOf o.f4)
    rw [G.bytesOf_length] at h2
    rw [List.length_cons]
    split <;> omega
  have key : ∀ l : List Int, (l.flatMap (pieceI o.f0 o.f1 o.f2 o.f3 o.f4 o.f5 o.f6)).length ≤ (4 * o.f4.size + 30) * l.length := by
    intro l
    induction l with
    | nil => simp
    | cons c t ih => rw [List.flatMap_cons, List.length_append, List.length_cons, Nat.mul_succ]; have := piece c; omega
  obtain ⟨_, _, _, h4, h5⟩ := shapes o.f0
  have h6 := key (bytesOf (shp o.f0).2)
  rw [G.bytesOf_length] at h6
  have h7 : (4 * o.f4.size + 30) * (shp o.f0).2.size ≤ (4 * o.f4.size + 30) * 4 := Nat.mul_le_mul_left _ h5
  unfold lineO lineI
  rw [List.length_append, G.bytesOf_length]
  omega
theorem print_size (h : S23) (l : List S29) (hk : okP h.f0 h.f1 h.f2 h.f3 h.f4 h.f5 l) (hw : wgt l ≤ 1048576) : (strOfNums (printI h.f0 h.f1 h.f2 h.f3 h.f4 h.f5 l)).size ≤ 400000000 := by
  have key : ∀ l : List S29, (∀ o ∈ l, okS o) → (l.flatMap opI).length ≤ 301 * wgt l := by
    intro l
    induction l with
    | nil => intro _; simp [wgt]
    | cons o t ih =>
      intro ho
      have h1 := lineO_len o (ho o (by simp))
      have h2 := ih (fun x hx => ho x (by simp [hx]))
      have h3 : (opI o).length = (lineO o).length + 1 := by unfold opI lineO; simp
      have h4 : wgt (o :: t) = o.f4.size + 1 + wgt t := rfl
      rw [List.flatMap_cons, List.length_append, h3, h4]
      omega
  have h1 := key l hk.2.2
  have h2 := head_len hk 6
  have h5 : (headNums h.f0 h.f1 h.f2 h.f3 h.f4 h.f5).take 6 = headNums h.f0 h.f1 h.f2 h.f3 h.f4 h.f5 := rfl
  rw [h5] at h2
  rw [← G.bytesOf_length, bytesOf_str _ (print_range _ _ _ _ _ _ _)]
  unfold printI
  rw [List.length_append, List.length_append, List.length_singleton]
  omega
end Go.Proofs.YtlmdhpfggobogaaDoor.Pure

/- ScriptThere: Parse of Print is the script with plain ops. -/
namespace Go.Proofs.YtlmdhpfggobogaaDoor.Pure
open Go.Proofs.YtlmdhpfggobogaaDoor.G hiding bytesOf_length
open Go.RowKit Go.Proofs.YtlmdhpfggobogaaDoorW.PrintWords Go.Proofs.YtlmdhpfggobogaaDoorW.PrintLast
set_option linter.unusedVariables false
theorem ScriptThere (a0 a1 a2 a3 a4 a5 : Int) (l : List S29) (ho : okP a0 a1 a2 a3 a4 a5 l) (hw : wgt l ≤ 1048576) : ∃ k, barrowlaw24_ScriptThere.f k a0 a1 a2 a3 a4 a5 l = some true := by
  refine Ev.rounds ?_
  unfold barrowlaw24_ScriptThere.f
  refine Ev.bind awake_ev (Ev.congr (fun k => if_pos rfl) ?_)
  have h1 : script_Print.f a0 a1 a2 a3 a4 a5 l = some (strOfNums (printI a0 a1 a2 a3 a4 a5 l)) := if_pos ho
  have h2 := print_size ⟨a0, a1, a2, a3, a4, a5⟩ l ho hw
  have h3 := parse_P (strOfNums (printI a0 a1 a2 a3 a4 a5 l)) (Nat.le_trans h2 (by omega))
  rw [show parsP (strOfNums (printI a0 a1 a2 a3 a4 a5 l)) = goodP ⟨a0, a1, a2, a3, a4, a5⟩ (l.map plO) from parsP_print ⟨a0, a1, a2, a3, a4, a5⟩ l ho] at h3
  refine Ev.congr (fun k => by rw [h1, Option.bind_some]) (Ev.bind h3 ?_)
  refine Ev.congr (fun k => (if_pos (show (0 : Int) = 0 from rfl)).trans (if_pos (show (0 : Int) = 0 from rfl))) ?_
  refine Ev.bind (plain_ev a0 a1 a2 a3 a4 a5 l (by have := ho.2.1; omega)) ?_
  exact Ev.bind (equal_ev a0 a1 a2 a3 a4 a5 (l.map plO) (by rw [List.length_map]; have := ho.2.1; omega)) (Ev.now _)
end Go.Proofs.YtlmdhpfggobogaaDoor.Pure
