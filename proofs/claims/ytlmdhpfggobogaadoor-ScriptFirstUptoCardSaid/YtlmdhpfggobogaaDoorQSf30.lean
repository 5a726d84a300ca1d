import Derived.Test.YtlmdhpfggobogaaDoorQSf26
import Derived.Test.YtlmdhpfggobogaaDoorQSf27
import Derived.Test.YtlmdhpfggobogaaDoorQSf5
import Derived.Test.YtlmdhpfggobogaaDoorQSf23
import Derived.Test.YtlmdhpfggobogaaDoorQSf28
import Derived.Test.YtlmdhpfggobogaaDoorQSf25
/- Parse, line by line: the program's answer. -/
namespace Go.Proofs.YtlmdhpfggobogaaDoor.Pure
open Go.Proofs.YtlmdhpfggobogaaDoor.G hiding bytesOf_length
open Go.RowKit Go.Proofs.YtlmdhpfggobogaaDoorW.PrintWords Go.Proofs.YtlmdhpfggobogaaDoorW.PrintLast
set_option linter.unusedVariables false
abbrev PT := Int × Int × Int × Int × Int × Int × List S29 × Int × Int
def badP (n : Int) : PT := (0, 0, 0, 0, 0, 0, [], n, 17)
def goodP (h : S23) (ops : List S29) : PT := (h.f0, h.f1, h.f2, h.f3, h.f4, h.f5, ops, 0, 0)
def opOf (r : Int × Int × Int × Int × ByteArray × Int × Int × Bool) : S29 := ⟨r.1, r.2.1, r.2.2.1, r.2.2.2.1, r.2.2.2.2.1, r.2.2.2.2.2.1, r.2.2.2.2.2.2.1⟩
def hdOf (r : Int × Int × Int × Int × Int × Int × Bool) : S23 := ⟨r.1, r.2.1, r.2.2.1, r.2.2.2.1, r.2.2.2.2.1, r.2.2.2.2.2.1⟩
/-- What a line does: none: it is wrong. -/
def lineP (b : Bool) (h : S23) (ops : List S29) (l : List Int) : Option (Bool × S23 × List S29) :=
  if silI l = true then some (b, h, ops) else match run false l .gap [] with
    | some (w :: ws) =>
      if b = true then (if (stepP (strOfNums w) (ws.map strOfNums)).2.2.2.2.2.2.2 = true then some (true, h, ops ++ [opOf (stepP (strOfNums w) (ws.map strOfNums))]) else none)
      else (if (headN (strOfNums w) (ws.map strOfNums)).2.2.2.2.2.2 = true then some (true, hdOf (headN (strOfNums w) (ws.map strOfNums)), ops) else none)
    | _ => none
def parsC : List (List Int) → Nat → Bool → S23 → List S29 → PT
  | [], i, b, h, ops => if b = true then goodP h ops else badP ((i + 1 : Nat) : Int)
  | l :: t, i, b, h, ops => match lineP b h ops l with
    | some r => parsC t (i + 1) r.1 r.2.1 r.2.2
    | none => badP ((i + 1 : Nat) : Int)
/-- A text's lines; no empty one at its end. -/
def linesT : List Int → List Int → List (List Int)
  | cur, [] => if cur = [] then [] else [cur]
  | cur, c :: t => if c = 10 then cur :: linesT [] t else linesT (cur ++ [c]) t
def trimL (ls : List (List Int)) : List (List Int) := if ls.getLast? = some [] then ls.dropLast else ls
theorem linesA_ne : ∀ (l cur : List Int), linesA cur l ≠ []
  | [], cur => by simp [linesA]
  | c :: t, cur => by
    unfold linesA
    split
    · simp
    · exact linesA_ne t _
theorem trim_lines : ∀ (l cur : List Int), trimL (linesA cur l) = linesT cur l
  | [], cur => by
    unfold linesA linesT trimL
    by_cases h : cur = []
    · rw [if_pos h, h]; rfl
    · rw [if_neg h, if_neg (by simpa using h)]
  | c :: t, cur => by
    unfold linesA linesT
    by_cases h : c = 10
    · rw [if_pos h, if_pos h, ← trim_lines t []]
      have hne := linesA_ne t []
      unfold trimL
      rw [List.getLast?_cons_of_ne_nil hne, List.dropLast_cons_of_ne_nil hne]
      split <;> rfl
    · rw [if_neg h, if_neg h]
      exact trim_lines t _
/-! ### The program's Parse -/
theorem readH_N (i : Nat) : ∀ (xs : List ByteArray) (h : S23), (∀ y ∈ xs, y.size ≤ 8796093022208) → readH i xs h = some (readN i xs h)
  | [], h, _ => rfl
  | x :: xs, h, hx => by
    have h1 := hx x (by simp)
    have hn : script_readNumber.f x = some (rdNum x) := by unfold script_readNumber.f; rw [if_pos (by omega)]
    unfold readH readN numR
    rw [hn, Option.bind_some]
    by_cases hr : (rdNum x).2 = true
    · rw [if_pos hr, if_pos hr]
      exact readH_N (i + 1) xs _ (fun y hy => hx y (by simp [hy]))
    · rw [if_neg hr, if_neg hr]
theorem head_P (x : ByteArray) (xs : List ByteArray) (hl : xs.length < 4611686018427387903) (hx : ∀ y ∈ xs, y.size ≤ 8796093022208) : script_head.f (x :: xs) = some (headN x xs) := by
  show headC x xs = _
  unfold headC headN
  rw [if_pos (by rw [List.length_cons]; omega), readH_N 0 xs zeroH hx]
  by_cases h1 : (x.toList == storeB.toList) = true
  · rw [if_pos h1, if_pos h1]
    split <;> rfl
  · rw [if_neg h1, if_neg h1, ite_self]
theorem parse_l0 (Ls : List ByteArray) (hLs : Ls.length < 1099511627776) (hsz : ∀ s ∈ Ls, s.size < 8796093022208) : ∀ (d i : Nat) (b : Bool) (h : S23) (ops : List S29), i + d = Ls.length → ops.length ≤ i →
    Ev (fun k => script_Parse.l0 k b Ls Ls (Ls.length : Int) i h.f0 h.f1 h.f2 h.f3 h.f4 h.f5 ops) (parsC ((Ls.drop i).map bytesOf) i b h ops)
  | 0, i, b, h, ops, hd, ho => by
    rw [List.drop_eq_nil_of_le (by omega)]
    refine Ev.step (f := fun _ => some (if b = true then goodP h ops else badP ((i + 1 : Nat) : Int))) (fun k => ?_) (Ev.now _)
    simp only [script_Parse.l0]
    rw [if_neg (by omega), show (Ls.length : Int) = (i : Int) by omega, w64_nat i (by omega)]
    split <;> rfl
  | d + 1, i, b, h, ops, hd, ho => by
    have hi : i < Ls.length := by omega
    have hrd : rdOf ByteArray.empty Ls (i : Int) = Ls[i] := by
      unfold rdOf
      rw [Int.toNat_natCast, List.getD_eq_getElem?_getD, List.getElem?_eq_getElem hi]; rfl
    have hs := hsz Ls[i] (List.getElem_mem hi)
    rw [List.drop_eq_getElem_cons hi, List.map_cons]
    generalize Ls[i] = s at hrd hs
    have hwn := w64_nat i (by omega)
    have next : ∀ (b' : Bool) (h' : S23) (ops' : List S29), ops'.length ≤ i + 1 → Ev (fun k => script_Parse.l0 k b' Ls Ls (Ls.length : Int) ((i + 1 : Nat) : Int) h'.f0 h'.f1 h'.f2 h'.f3 h'.f4 h'.f5 ops') (parsC ((Ls.drop (i + 1)).map bytesOf) (i + 1) b' h' ops') :=
      fun b' h' ops' ho' => parse_l0 Ls hLs hsz d (i + 1) b' h' ops' (by omega) ho'
    obtain ⟨L, hL⟩ := words_said s hs
    have st : ∀ k, script_Parse.l0 (k + 1) b Ls Ls (Ls.length : Int) i h.f0 h.f1 h.f2 h.f3 h.f4 h.f5 ops = (script_words.f k s).bind fun bt111 => (if bt111.2 = true then (script_Parse.j2 k b Ls i bt111.1 bt111.2 Ls (Ls.length : Int) i ((bt111.1.length : Int) == 0) h.f0 h.f1 h.f2 h.f3 h.f4 h.f5 ops) else (script_Parse.j2 k b Ls i bt111.1 bt111.2 Ls (Ls.length : Int) i false h.f0 h.f1 h.f2 h.f3 h.f4 h.f5 ops)) := by
      intro k
      simp only [script_Parse.l0]
      rw [if_pos (by omega), if_pos (by omega), if_pos (by omega), hrd]
    refine Ev.step st ?_
    refine Ev.bind hL ?_
    unfold parsC lineP
    by_cases hsil : silI (bytesOf s) = true
    · rw [if_pos hsil, run_silent _ hsil]
      refine Ev.congr (f := fun k => script_Parse.j2 k b Ls i [] true Ls (Ls.length : Int) i true h.f0 h.f1 h.f2 h.f3 h.f4 h.f5 ops) (fun k => by rw [if_pos rfl]; rfl) ?_
      refine Ev.step (fun k => ?_) (next b h ops (by omega))
      simp only [script_Parse.j2]
      rw [if_pos trivial, hwn]
    · rw [if_neg hsil]
      obtain ⟨e1, e2⟩ := run_loud (bytesOf s) (by simpa using hsil)
      rw [e1]
      have bad : ∀ (M : List ByteArray), Ev (fun k => script_Parse.j3 k b Ls i M false Ls (Ls.length : Int) i false h.f0 h.f1 h.f2 h.f3 h.f4 h.f5 ops) (badP ((i + 1 : Nat) : Int)) := by
        intro M
        refine Ev.step (f := fun _ => some (badP ((i + 1 : Nat) : Int))) (fun k => ?_) (Ev.now _)
        simp only [script_Parse.j3]
        rw [if_neg (by decide), if_neg (by decide), hwn]
        rfl
      cases hrun : run false (bytesOf s) .gap [] with
      | none =>
        refine Ev.congr (f := fun k => script_Parse.j2 k b Ls i L false Ls (Ls.length : Int) i false h.f0 h.f1 h.f2 h.f3 h.f4 h.f5 ops) (fun k => by rw [if_neg Bool.false_ne_true]) ?_
        refine Ev.step (fun k => ?_) (bad L)
        simp only [script_Parse.j2]
        rw [if_neg (by decide), if_neg (by decide)]
      | some r =>
        cases r with
        | nil => exact absurd rfl (e2 [] hrun)
        | cons w ws =>
          obtain ⟨b1, b2⟩ := words_small s hs hrun
          refine Ev.congr (f := fun k => script_Parse.j2 k b Ls i (strOfNums w :: ws.map strOfNums) true Ls (Ls.length : Int) i false h.f0 h.f1 h.f2 h.f3 h.f4 h.f5 ops) (fun k => ?_) ?_
          · show (if true = true then _ else _) = _
            rw [if_pos rfl]
            show script_Parse.j2 k b Ls i (strOfNums w :: ws.map strOfNums) true Ls (Ls.length : Int) i (((strOfNums w :: ws.map strOfNums).length : Int) == 0) _ _ _ _ _ _ _ = _
            rw [show (((strOfNums w :: ws.map strOfNums).length : Int) == 0) = false from by rw [beq_eq_false_iff_ne, List.length_cons]; omega]
          · refine Ev.step (f := fun k => script_Parse.j3 k b Ls i (strOfNums w :: ws.map strOfNums) true Ls (Ls.length : Int) i (!b) h.f0 h.f1 h.f2 h.f3 h.f4 h.f5 ops) (fun k => by simp only [script_Parse.j2]; rw [if_neg (by decide), if_pos trivial]) ?_
            cases b with
            | false =>
              dsimp only
              rw [if_neg (by decide)]
              have hh := head_P (strOfNums w) (ws.map strOfNums) b1 b2
              have st3 : ∀ k, script_Parse.j3 (k + 1) false Ls i (strOfNums w :: ws.map strOfNums) true Ls (Ls.length : Int) i (!false) h.f0 h.f1 h.f2 h.f3 h.f4 h.f5 ops = (if (headN (strOfNums w) (ws.map strOfNums)).2.2.2.2.2.2 = true then script_Parse.l0 k true Ls Ls (Ls.length : Int) ((i + 1 : Nat) : Int) (headN (strOfNums w) (ws.map strOfNums)).1 (headN (strOfNums w) (ws.map strOfNums)).2.1 (headN (strOfNums w) (ws.map strOfNums)).2.2.1 (headN (strOfNums w) (ws.map strOfNums)).2.2.2.1 (headN (strOfNums w) (ws.map strOfNums)).2.2.2.2.1 (headN (strOfNums w) (ws.map strOfNums)).2.2.2.2.2.1 ops else some (badP ((i + 1 : Nat) : Int))) := by
                intro k
                simp only [script_Parse.j3]
                rw [if_pos (by decide), hh, Option.bind_some, hwn]
                rfl
              refine Ev.step st3 ?_
              generalize headN (strOfNums w) (ws.map strOfNums) = r
              by_cases hr : r.2.2.2.2.2.2 = true
              · rw [if_pos hr]
                exact Ev.congr (fun k => if_pos hr) (next true (hdOf r) ops (by omega))
              · rw [if_neg hr]
                exact Ev.congr (fun k => if_neg hr) (Ev.now _)
            | true =>
              dsimp only
              rw [if_pos rfl]
              have hst := step_P (strOfNums w) (ws.map strOfNums) b1 b2
              have st3 : ∀ k, script_Parse.j3 (k + 1) true Ls i (strOfNums w :: ws.map strOfNums) true Ls (Ls.length : Int) i (!true) h.f0 h.f1 h.f2 h.f3 h.f4 h.f5 ops = (script_step.f k (strOfNums w :: ws.map strOfNums)).bind fun bt123 => (if bt123.2.2.2.2.2.2.2 = true then script_Parse.l0 k true Ls Ls (Ls.length : Int) ((i + 1 : Nat) : Int) h.f0 h.f1 h.f2 h.f3 h.f4 h.f5 (ops ++ [opOf bt123]) else some (badP ((i + 1 : Nat) : Int))) := by
                intro k
                simp only [script_Parse.j3]
                rw [if_neg (by decide), if_pos trivial, hwn]
                congr 1
                funext bt123
                rw [if_pos (by omega)]
                rfl
              refine Ev.step st3 (Ev.bind hst ?_)
              generalize stepP (strOfNums w) (ws.map strOfNums) = r
              by_cases hr : r.2.2.2.2.2.2.2 = true
              · rw [if_pos hr]
                exact Ev.congr (fun k => if_pos hr) (next true h (ops ++ [opOf r]) (by rw [List.length_append, List.length_singleton]; omega))
              · rw [if_neg hr]
                exact Ev.congr (fun k => if_neg hr) (Ev.now _)
def parsP (s : ByteArray) : PT := parsC (linesT [] (bytesOf s)) 0 false zeroH []
theorem linesA_size (B : Nat) : ∀ (l cur : List Int), cur.length + l.length ≤ B → ∀ u ∈ linesA cur l, u.length ≤ B
  | [], cur, h, u, hu => by simp [linesA] at hu; subst hu; simpa using h
  | c :: t, cur, h, u, hu => by
    unfold linesA at hu
    rw [List.length_cons] at h
    split at hu
    · rcases List.mem_cons.1 hu with e | e
      · subst e; omega
      · exact linesA_size B t [] (by simp; omega) u e
    · exact linesA_size B t _ (by simp; omega) u hu
theorem linesA_len : ∀ (l cur : List Int), (linesA cur l).length ≤ l.length + 1
  | [], cur => by simp [linesA]
  | c :: t, cur => by
    unfold linesA
    split
    · have := linesA_len t []; simp; omega
    · have := linesA_len t (cur ++ [c]); simp; omega
theorem parse_P (s : ByteArray) (hs : s.size ≤ 1000000000) : Ev (fun k => script_Parse.f k s) (parsP s) := by
  unfold script_Parse.f
  obtain ⟨Ls, hLs⟩ : ∃ Ls, Lib.splitB nl 0 (Lib.countB s nl) s = Ls := ⟨_, rfl⟩
  have hsp : strings_Split.f s (⟨#[10]⟩ : ByteArray) = some Ls := by
    unfold strings_Split.f
    rw [if_pos ⟨by omega, by decide⟩]
    exact congrArg some hLs
  have hmap : Ls.map bytesOf = linesA [] (bytesOf s) := by rw [← hLs]; exact split_lines _ s (Nat.le_refl _)
  have hne : Ls ≠ [] := by
    intro e
    rw [e] at hmap
    exact linesA_ne _ _ hmap.symm
  have hlen : Ls.length ≤ s.size + 1 := by
    have := congrArg List.length hmap
    rw [List.length_map] at this
    have h2 := linesA_len (bytesOf s) []
    rw [G.bytesOf_length] at h2
    omega
  have hszs : ∀ u ∈ Ls, u.size < 8796093022208 := by
    intro u hu
    have h1 := linesA_size s.size (bytesOf s) [] (by rw [G.bytesOf_length]; simp) (bytesOf u) (by rw [← hmap]; exact List.mem_map.2 ⟨u, hu, rfl⟩)
    rw [G.bytesOf_length] at h1
    omega
  have hpos : 0 < Ls.length := List.length_pos_iff.2 hne
  have hw : wrap64 ((Ls.length : Int) - 1) = ((Ls.length - 1 : Nat) : Int) := by rw [w64 (by omega) (by omega)]; omega
  have hlast : rdOf ByteArray.empty Ls ((Ls.length - 1 : Nat) : Int) = Ls.getLast hne := by
    unfold rdOf
    rw [Int.toNat_natCast, List.getD_eq_getElem?_getD, List.getElem?_eq_getElem (by omega), List.getLast_eq_getElem]; rfl
  have htrim := trim_lines (bytesOf s) []
  rw [← hmap] at htrim
  have hgl : (Ls.map bytesOf).getLast? = some (bytesOf (Ls.getLast hne)) := by
    rw [List.getLast?_map, List.getLast?_eq_some_getLast hne]; rfl
  have go : ∀ Ms : List ByteArray, Ms.length ≤ Ls.length → (∀ u ∈ Ms, u ∈ Ls) → Ms.map bytesOf = linesT [] (bytesOf s) → Ev (fun k => script_Parse.j0 k false Ms 0 0 0 0 0 0) (parsP s) := by
    intro Ms h1 h2 h3
    have := parse_l0 Ms (by omega) (fun u hu => hszs u (h2 u hu)) Ms.length 0 false zeroH [] (by omega) (by simp)
    rw [List.drop_zero, h3] at this
    refine Ev.step (fun k => ?_) this
    simp only [script_Parse.j0]
    rfl
  have pre : ∀ k, ((strings_Split.f s (⟨#[10]⟩ : ByteArray)).bind fun t103 => (if 0 ≤ (wrap64 ((t103.length : Int) - 1)) then (if (wrap64 ((t103.length : Int) - 1)) < (t103.length : Int) then (if (rdOf ByteArray.empty t103 (wrap64 ((t103.length : Int) - 1))).toList = ([] : List UInt8) then (if (wrap64 ((t103.length : Int) - 1)) ≤ (t103.length : Int) then (script_Parse.j0 k false (t103.take ((wrap64 ((t103.length : Int) - 1)) : Int).toNat) 0 0 0 0 0 0) else (none)) else (script_Parse.j0 k false t103 0 0 0 0 0 0)) else (none)) else (none))) = (if (Ls.getLast hne).toList = ([] : List UInt8) then (script_Parse.j0 k false (Ls.take (Ls.length - 1)) 0 0 0 0 0 0) else (script_Parse.j0 k false Ls 0 0 0 0 0 0)) := by
    intro k
    rw [hsp, Option.bind_some, hw, if_pos (by omega), if_pos (by omega), hlast, if_pos (show ((Ls.length - 1 : Nat) : Int) ≤ (Ls.length : Int) by omega), Int.toNat_natCast]
  refine Ev.congr pre ?_
  have hemp : (Ls.getLast hne).toList = ([] : List UInt8) ↔ bytesOf (Ls.getLast hne) = [] := by
    rw [ByteArray.toList_eq]
    unfold bytesOf
    rw [List.map_eq_nil_iff]
  by_cases he : (Ls.getLast hne).toList = ([] : List UInt8)
  · refine Ev.congr (fun k => if_pos he) ?_
    have hb := hemp.1 he
    unfold trimL at htrim
    rw [hgl, hb, if_pos rfl] at htrim
    refine go _ (by rw [List.length_take]; omega) (fun u hu => List.mem_of_mem_take hu) ?_
    rw [← htrim, List.dropLast_eq_take, List.length_map, List.map_take]
  · refine Ev.congr (fun k => if_neg he) ?_
    unfold trimL at htrim
    rw [hgl, if_neg (fun e => he (hemp.2 (Option.some.inj e)))] at htrim
    exact go Ls (Nat.le_refl _) (fun u hu => hu) htrim
end Go.Proofs.YtlmdhpfggobogaaDoor.Pure

/- The first lines of a text; the line that is named is the first wrong one. -/
namespace Go.Proofs.YtlmdhpfggobogaaDoor.Pure
open Go.Proofs.YtlmdhpfggobogaaDoor.G hiding bytesOf_length
open Go.RowKit Go.Proofs.YtlmdhpfggobogaaDoorW.PrintWords Go.Proofs.YtlmdhpfggobogaaDoorW.PrintLast
set_option linter.unusedVariables false
/-- A text's first lines, with their ends. -/
def upToI : List Int → Nat → List Int
  | [], _ => []
  | _ :: _, 0 => []
  | c :: t, k + 1 => c :: (if c = 10 then upToI t k else upToI t (k + 1))
theorem upToI_len : ∀ (l : List Int) (k : Nat), (upToI l k).length ≤ l.length
  | [], _ => by simp [upToI]
  | _ :: _, 0 => by simp [upToI]
  | c :: t, k + 1 => by
    unfold upToI
    have h1 := upToI_len t k
    have h2 := upToI_len t (k + 1)
    split <;> simp <;> omega
theorem upTo_lines : ∀ (l cur : List Int) (k : Nat), (k = 0 → cur = []) → linesT cur (upToI l k) = (linesT cur l).take k
  | [], cur, 0, h => by rw [h rfl]; simp [upToI, linesT]
  | _ :: _, cur, 0, h => by rw [h rfl]; simp [upToI, linesT]
  | [], cur, k + 1, h => by
    unfold upToI linesT
    split
    · simp
    · simp
  | c :: t, cur, k + 1, h => by
    have h1 := upTo_lines t [] k (fun _ => rfl)
    have h2 := upTo_lines t (cur ++ [c]) (k + 1) (fun e => by omega)
    unfold upToI
    by_cases hc : c = 10
    · rw [if_pos hc, linesT, if_pos hc, h1, linesT, if_pos hc, List.take_succ_cons]
    · rw [if_neg hc, linesT, if_neg hc, h2]
      conv => rhs; unfold linesT
      rw [if_neg hc]
theorem upTo_l0 (s : ByteArray) (hs : s.size ≤ 1000000000) : ∀ (d i m : Nat), i + d = s.size → m ≤ 2000000000 → ∃ r, Ev (fun k => barrowlaw24_upTo.l0 k s m i) r ∧ bytesOf r = (bytesOf s).take i ++ upToI ((bytesOf s).drop i) m
  | 0, i, m, hd, hm => by
    refine ⟨s, Ev.step (f := fun _ => some s) (fun k => ?_) (Ev.now _), ?_⟩
    · simp only [barrowlaw24_upTo.l0]
      rw [if_neg (by omega)]
    · rw [List.drop_eq_nil_of_le (by rw [G.bytesOf_length]; omega), List.take_of_length_le (by rw [G.bytesOf_length]; omega)]
      simp [upToI]
  | d + 1, i, m, hd, hm => by
    have hi : i < s.size := by omega
    have ed := bytesOf_drop s i hi
    have et : (bytesOf s).take (i + 1) = (bytesOf s).take i ++ [bt s i] := by
      have h1 : i < (bytesOf s).length := by rw [G.bytesOf_length]; exact hi
      rw [List.take_succ_eq_append_getElem h1]
      have h2 := List.drop_eq_getElem_cons h1
      rw [ed] at h2
      rw [List.cons.inj h2 |>.1]
    cases m with
    | zero =>
      refine ⟨s.extract 0 i, Ev.step (f := fun _ => some (s.extract 0 i)) (fun k => ?_) (Ev.now _), ?_⟩
      · simp only [barrowlaw24_upTo.l0]
        rw [if_pos (by omega), if_pos (by omega), if_pos (by omega), if_pos (by omega), Int.toNat_natCast]
      · rw [ext_bytes, ed]
        simp [upToI]
    | succ m =>
      have hwn := w64_nat i (by omega)
      by_cases h10 : bt s i = 10
      · obtain ⟨r, h1, h2⟩ := upTo_l0 s hs d (i + 1) m (by omega) (by omega)
        refine ⟨r, Ev.step (fun k => ?_) h1, ?_⟩
        · simp only [barrowlaw24_upTo.l0]
          have hw : wrap64 (((m + 1 : Nat) : Int) - 1) = (m : Int) := by rw [w64 (by omega) (by omega)]; omega
          rw [if_pos (by omega), if_neg (by omega), if_pos (by omega), if_pos h10, hw, hwn]
        · rw [h2, ed, upToI, if_pos h10, et]
          simp
      · obtain ⟨r, h1, h2⟩ := upTo_l0 s hs d (i + 1) (m + 1) (by omega) hm
        refine ⟨r, Ev.step (fun k => ?_) h1, ?_⟩
        · simp only [barrowlaw24_upTo.l0]
          rw [if_pos (by omega), if_neg (by omega), if_pos (by omega), if_neg h10, hwn]
        · rw [h2, ed, upToI, if_neg h10, et]
          simp
theorem upTo_ev (s : ByteArray) (hs : s.size ≤ 1000000000) (m : Nat) (hm : m ≤ 2000000000) : ∃ r, Ev (fun k => barrowlaw24_upTo.f k s m) r ∧ r.size ≤ s.size ∧ linesT [] (bytesOf r) = (linesT [] (bytesOf s)).take m := by
  obtain ⟨r, h1, h2⟩ := upTo_l0 s hs s.size 0 m (by omega) hm
  rw [List.take_zero, List.drop_zero, List.nil_append] at h2
  refine ⟨r, h1, ?_, ?_⟩
  · rw [← G.bytesOf_length, ← G.bytesOf_length, h2]
    exact upToI_len _ _
  · rw [h2, upTo_lines _ _ _ (fun _ => rfl)]
/-- Parse's answer: a script, or the number of a line. -/
theorem parsC_cases : ∀ (L : List (List Int)) (i : Nat) (b : Bool) (h : S23) (ops : List S29), (∃ h' ops', parsC L i b h ops = goodP h' ops') ∨ ∃ n : Nat, parsC L i b h ops = badP n ∧ i + 1 ≤ n ∧ n ≤ i + L.length + 1
  | [], i, b, h, ops => by
    unfold parsC
    by_cases hb : b = true
    · rw [if_pos hb]; exact .inl ⟨_, _, rfl⟩
    · rw [if_neg hb]; exact .inr ⟨i + 1, rfl, Nat.le_refl _, by simp⟩
  | l :: t, i, b, h, ops => by
    unfold parsC
    cases hl : lineP b h ops l with
    | none => exact .inr ⟨i + 1, rfl, Nat.le_refl _, by simp⟩
    | some r =>
      rcases parsC_cases t (i + 1) r.1 r.2.1 r.2.2 with h1 | ⟨n, h1, h2, h3⟩
      · exact .inl h1
      · exact .inr ⟨n, h1, by omega, by rw [List.length_cons]; omega⟩
theorem good_ne_bad {h : S23} {ops : List S29} {n : Int} (e : goodP h ops = badP n) : False := by
  have := congrArg (fun r : PT => r.2.2.2.2.2.2.2.2) e
  exact absurd (show (0 : Int) = 17 from this) (by decide)
theorem bad_inj {m n : Int} (e : badP m = badP n) : m = n := congrArg (fun r : PT => r.2.2.2.2.2.2.2.1) e
theorem parsC_first : ∀ (L : List (List Int)) (i : Nat) (b : Bool) (h : S23) (ops : List S29) (n : Nat), parsC L i b h ops = badP n → i + 1 ≤ n ∧ parsC (L.take (n - i)) i b h ops = badP n ∧ ((∃ h' ops', parsC (L.take (n - 1 - i)) i b h ops = goodP h' ops') ∨ parsC (L.take (n - 1 - i)) i b h ops = badP n)
  | [], i, b, h, ops, n, e => by
    rw [List.take_nil, List.take_nil]
    refine ⟨?_, e, .inr e⟩
    unfold parsC at e
    by_cases hb : b = true
    · rw [if_pos hb] at e; exact (good_ne_bad e).elim
    · rw [if_neg hb] at e; have := bad_inj e; omega
  | l :: t, i, b, h, ops, n, e => by
    unfold parsC at e
    cases hl : lineP b h ops l with
    | none =>
      rw [hl] at e
      have hn : n = i + 1 := by have := bad_inj e; omega
      subst hn
      refine ⟨Nat.le_refl _, ?_, ?_⟩
      · rw [show i + 1 - i = 0 + 1 by omega, List.take_succ_cons, parsC, hl]
      · rw [show i + 1 - 1 - i = 0 by omega, List.take_zero, parsC]
        by_cases hb : b = true
        · rw [if_pos hb]; exact .inl ⟨_, _, rfl⟩
        · rw [if_neg hb]; exact .inr rfl
    | some r =>
      rw [hl] at e
      obtain ⟨h1, h2, h3⟩ := parsC_first t (i + 1) r.1 r.2.1 r.2.2 n e
      refine ⟨by omega, ?_, ?_⟩
      · rw [show n - i = (n - (i + 1)) + 1 by omega, List.take_succ_cons, parsC, hl]
        exact h2
      · rw [show n - 1 - i = (n - 1 - (i + 1)) + 1 by omega, List.take_succ_cons, parsC, hl]
        exact h3
end Go.Proofs.YtlmdhpfggobogaaDoor.Pure

-- PRINTED by print.py (a twelfth state) out of the translation. Not trusted: Lean checks it.
namespace Go.Proofs.YtlmdhpfggobogaaDoor.G
open Go.RowKit Go.Proofs.YtlmdhpfggobogaaDoorW.PrintWords Go.Proofs.YtlmdhpfggobogaaDoorW.PrintLast Go.Proofs.YtlmdhpfggobogaaDoorW.PrintMore
attribute [local go_sem] max2_int min2_int max_two min_two max_three min_three max_four min_four   -- for this text's walks alone
set_option linter.unusedVariables false
set_option linter.unusedSimpArgs false

/-! ### barrowlaw24_ScriptParses: function 8 -/
end Go.Proofs.YtlmdhpfggobogaaDoor.G

/- Parse, line by line: the reference's answer is the program's. -/
namespace Go.Proofs.YtlmdhpfggobogaaDoor.Pure
open Go.Proofs.YtlmdhpfggobogaaDoor.G hiding bytesOf_length
open Go.RowKit Go.Proofs.YtlmdhpfggobogaaDoorW.PrintWords Go.Proofs.YtlmdhpfggobogaaDoorW.PrintLast
set_option linter.unusedVariables false
/-! ### The reference's Parse -/
end Go.Proofs.YtlmdhpfggobogaaDoor.Pure

/- ScriptParses: the two Parses answer alike, at every text. -/
namespace Go.Proofs.YtlmdhpfggobogaaDoor.Pure
open Go.Proofs.YtlmdhpfggobogaaDoor.G hiding bytesOf_length
open Go.RowKit Go.Proofs.YtlmdhpfggobogaaDoorW.PrintWords Go.Proofs.YtlmdhpfggobogaaDoorW.PrintLast
set_option linter.unusedVariables false
def exH : List Int := [115, 116, 111, 114, 101, 32, 50, 32, 49, 32, 49, 48, 32, 49, 48, 48, 32, 52, 32, 56]
def exR : List Int := [114, 101, 97, 100, 32, 49, 32, 48]
def n0 : ByteArray := ⟨#[48]⟩
def n1 : ByteArray := ⟨#[49]⟩
def n2 : ByteArray := ⟨#[50]⟩
def n4 : ByteArray := ⟨#[52]⟩
def n8 : ByteArray := ⟨#[56]⟩
def n10 : ByteArray := ⟨#[49, 48]⟩
def n100 : ByteArray := ⟨#[49, 48, 48]⟩
theorem v0 : numR n0 = some 0 := numR_digits n0 0 (by decide) (by decide +kernel) (by decide +kernel) (by decide +kernel) (by decide +kernel)
theorem v1 : numR n1 = some 1 := numR_digits n1 1 (by decide) (by decide +kernel) (by decide +kernel) (by decide +kernel) (by decide +kernel)
theorem v2 : numR n2 = some 2 := numR_digits n2 2 (by decide) (by decide +kernel) (by decide +kernel) (by decide +kernel) (by decide +kernel)
theorem v4 : numR n4 = some 4 := numR_digits n4 4 (by decide) (by decide +kernel) (by decide +kernel) (by decide +kernel) (by decide +kernel)
theorem v8 : numR n8 = some 8 := numR_digits n8 8 (by decide) (by decide +kernel) (by decide +kernel) (by decide +kernel) (by decide +kernel)
theorem v10 : numR n10 = some 10 := numR_digits n10 10 (by decide) (by decide +kernel) (by decide +kernel) (by decide +kernel) (by decide +kernel)
theorem v100 : numR n100 = some 100 := numR_digits n100 100 (by decide) (by decide +kernel) (by decide +kernel) (by decide +kernel) (by decide +kernel)
theorem exHead : headN storeB [n2, n1, n10, n100, n4, n8] = (2, 1, 10, 100, 4, 8, true) := by
  unfold headN
  rw [if_pos (show [n2, n1, n10, n100, n4, n8].length = 6 from rfl), if_pos (by decide +kernel)]
  simp only [readN, v2, v1, v10, v100, v4, v8]
  rfl
theorem exW1 : run false exH .gap [] = some [bytesOf storeB, [50], [49], [49, 48], [49, 48, 48], [52], [56]] := by decide +kernel
theorem exLine1 : lineP false zeroH [] exH = some (true, ⟨2, 1, 10, 100, 4, 8⟩, []) := by
  unfold lineP
  rw [if_neg (by decide +kernel), exW1]
  dsimp only
  rw [if_neg (by decide)]
  have e : headN (strOfNums (bytesOf storeB)) ([[50], [49], [49, 48], [49, 48, 48], [52], [56]].map strOfNums) = (2, 1, 10, 100, 4, 8, true) := by
    rw [str_bytesOf]; exact exHead
  rw [e]
  rfl
theorem linesT_len : ∀ (l cur : List Int), (linesT cur l).length ≤ l.length + 1
  | [], cur => by unfold linesT; split <;> simp
  | c :: t, cur => by
    unfold linesT
    split
    · have := linesT_len t []; simp; omega
    · have := linesT_len t (cur ++ [c]); simp; omega
end Go.Proofs.YtlmdhpfggobogaaDoor.Pure

/- ScriptFirst: the line that is named is the first wrong one. -/
namespace Go.Proofs.YtlmdhpfggobogaaDoor.Pure
open Go.Proofs.YtlmdhpfggobogaaDoor.G hiding bytesOf_length
open Go.RowKit Go.Proofs.YtlmdhpfggobogaaDoorW.PrintWords Go.Proofs.YtlmdhpfggobogaaDoorW.PrintLast
set_option linter.unusedVariables false
def exF : ByteArray := ⟨#[115, 116, 111, 114, 101, 32, 50, 32, 49, 32, 49, 48, 32, 49, 48, 48, 32, 52, 32, 56, 10, 114, 97, 101, 100, 32, 49, 32, 48, 10, 114, 101, 97, 100, 32, 49, 32, 48]⟩
def exQ : List Int := [114, 97, 101, 100, 32, 49, 32, 48]
def raedB : ByteArray := ⟨#[114, 97, 101, 100]⟩
theorem exFL : linesT [] (bytesOf exF) = [exH, exQ, exR] := by decide +kernel
theorem exW3 : run false exQ .gap [] = some [bytesOf raedB, [49], [48]] := by decide +kernel
theorem raedK : kindUpto raedB 16 = 0 := by decide +kernel
theorem exBad : parsP exF = badP ((2 : Nat) : Int) := by
  unfold parsP
  rw [exFL]
  have l2 : lineP true ⟨2, 1, 10, 100, 4, 8⟩ [] exQ = none := by
    unfold lineP
    rw [if_neg (by decide +kernel), exW3]
    dsimp only
    rw [if_pos rfl]
    have e : stepP (strOfNums (bytesOf raedB)) ([[49], [48]].map strOfNums) = tupB zeroO false := by
      rw [str_bytesOf]
      unfold stepP
      rw [raedK, if_neg (by decide +kernel)]
    rw [e, if_neg (by decide)]
  unfold parsC
  rw [exLine1]
  dsimp only
  unfold parsC
  rw [l2]
theorem ScriptFirst (s : ByteArray) (hs : s.size ≤ 1048576) : ∃ k, barrowlaw24_ScriptFirst.f k s = some true := by
  refine Ev.rounds ?_
  unfold barrowlaw24_ScriptFirst.f
  have h1 := parse_P exF (by decide)
  rw [exBad] at h1
  refine Ev.bind h1 ?_
  refine Ev.congr (f := fun k => barrowlaw24_ScriptFirst.j0 k s false) (fun k => if_pos rfl) ?_
  refine Ev.step (f := fun k => (script_Parse.f k s).bind fun bt449 => (if bt449.2.2.2.2.2.2.2.2 = 0 then (some (bt449.2.2.2.2.2.2.2.1 == 0)) else (if bt449.2.2.2.2.2.2.2.2 = 17 then (if bt449.2.2.2.2.2.2.2.1 < 1 then (barrowlaw24_ScriptFirst.j1 k s bt449.2.2.2.2.2.2.2.1 true) else ((barrowref24_Equal.f k bt449.1 bt449.2.1 bt449.2.2.1 bt449.2.2.2.1 bt449.2.2.2.2.1 bt449.2.2.2.2.2.1 bt449.2.2.2.2.2.2.1 0 0 0 0 0 0 ([] : List (S29))).bind fun t461 => (barrowlaw24_ScriptFirst.j1 k s bt449.2.2.2.2.2.2.2.1 (!t461)))) else (barrowlaw24_ScriptFirst.j1 k s bt449.2.2.2.2.2.2.2.1 true)))) (fun k => by simp only [barrowlaw24_ScriptFirst.j0]; rw [if_neg (by decide)]) ?_
  refine Ev.bind (parse_P s (by omega)) ?_
  have hlen := linesT_len (bytesOf s) []
  rw [G.bytesOf_length] at hlen
  rcases parsC_cases (linesT [] (bytesOf s)) 0 false zeroH [] with ⟨h', ops', hg⟩ | ⟨n, hb, hn1, hn2⟩
  · rw [show parsP s = goodP h' ops' from hg]
    exact Ev.congr (fun k => if_pos (show (0 : Int) = 0 from rfl)) (Ev.now _)
  · rw [show parsP s = badP n from hb]
    refine Ev.congr (fun k => (if_neg (show ¬ (17 : Int) = 0 by decide)).trans ((if_pos (show (17 : Int) = 17 from rfl)).trans (if_neg (show ¬ (n : Int) < 1 by omega)))) ?_
    refine Ev.bind (equal_ev 0 0 0 0 0 0 [] (by simp)) ?_
    obtain ⟨f1, f2, f3⟩ := parsC_first _ 0 false zeroH [] n hb
    rw [Nat.sub_zero] at f2
    rw [Nat.sub_zero] at f3
    obtain ⟨u, u1, u2, u3⟩ := upTo_ev s (by omega) n (by omega)
    obtain ⟨v, v1, v2, v3⟩ := upTo_ev s (by omega) (n - 1) (by omega)
    have pu : parsP u = badP n := by unfold parsP; rw [u3]; exact f2
    have pv : (∃ h' ops', parsP v = goodP h' ops') ∨ parsP v = badP n := by unfold parsP; rw [v3]; exact f3
    have eu := parse_P u (by omega)
    have ev := parse_P v (by omega)
    rw [pu] at eu
    have hw : wrap64 ((n : Int) - 1) = ((n - 1 : Nat) : Int) := by rw [w64 (by omega) (by omega)]; omega
    show Ev (fun k => barrowlaw24_ScriptFirst.j1 k s (n : Int) false) true
    refine Ev.step (f := fun k => (barrowlaw24_upTo.f k s (n : Int)).bind fun t462 => ((script_Parse.f k t462).bind fun bt463 => (if bt463.2.2.2.2.2.2.2.2 = 17 then (barrowlaw24_ScriptFirst.j2 k s n (bt463.2.2.2.2.2.2.2.1 != (n : Int))) else (barrowlaw24_ScriptFirst.j2 k s n true)))) (fun k => by simp only [barrowlaw24_ScriptFirst.j1]; rw [if_neg (by decide)]) ?_
    refine Ev.bind u1 (Ev.bind eu ?_)
    refine Ev.congr (f := fun k => barrowlaw24_ScriptFirst.j2 k s n false) (fun k => ?_) ?_
    · refine (if_pos (show (17 : Int) = 17 from rfl)).trans ?_
      show barrowlaw24_ScriptFirst.j2 k s n ((n : Int) != (n : Int)) = _
      rw [show ((n : Int) != (n : Int)) = false from by simp]
    · refine Ev.step (f := fun k => (barrowlaw24_upTo.f k s ((n - 1 : Nat) : Int)).bind fun t475 => ((script_Parse.f k t475).bind fun bt476 => (if bt476.2.2.2.2.2.2.2.2 = 0 then (if bt476.2.2.2.2.2.2.2.1 = 0 then (some true) else (if bt476.2.2.2.2.2.2.2.2 = 17 then (some (bt476.2.2.2.2.2.2.2.1 == (n : Int))) else (some false))) else (if bt476.2.2.2.2.2.2.2.2 = 17 then (some (bt476.2.2.2.2.2.2.2.1 == (n : Int))) else (some false))))) (fun k => by simp only [barrowlaw24_ScriptFirst.j2]; rw [if_neg (by decide), hw]) ?_
      refine Ev.bind v1 (Ev.bind ev ?_)
      rcases pv with ⟨h2, o2, e2⟩ | e2
      · rw [e2]
        exact Ev.congr (fun k => (if_pos (show (0 : Int) = 0 from rfl)).trans (if_pos (show (0 : Int) = 0 from rfl))) (Ev.now _)
      · rw [e2]
        refine Ev.congr (f := fun _ => some true) (fun k => (if_neg (show ¬ (17 : Int) = 0 by decide)).trans ((if_pos (show (17 : Int) = 17 from rfl)).trans ?_)) (Ev.now _)
        show some ((n : Int) == (n : Int)) = some true
        simp
end Go.Proofs.YtlmdhpfggobogaaDoor.Pure

/- A printed script is read as the script with plain ops. -/
namespace Go.Proofs.YtlmdhpfggobogaaDoor.Pure
open Go.Proofs.YtlmdhpfggobogaaDoor.G hiding bytesOf_length
open Go.RowKit Go.Proofs.YtlmdhpfggobogaaDoorW.PrintWords Go.Proofs.YtlmdhpfggobogaaDoorW.PrintLast
set_option linter.unusedVariables false
/-! ### An op's line -/
/-! ### The head's line -/
/-! ### The whole text -/
/-! ### Its size -/
end Go.Proofs.YtlmdhpfggobogaaDoor.Pure
