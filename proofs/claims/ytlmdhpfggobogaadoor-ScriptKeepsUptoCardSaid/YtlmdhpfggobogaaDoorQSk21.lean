import Derived.Test.YtlmdhpfggobogaaDoorQSk5
import Derived.Test.YtlmdhpfggobogaaDoorQSk10
import Derived.Test.YtlmdhpfggobogaaDoorQSk19
import Derived.Lib.IndexLaws
import Derived.Lib.IndexBytes
namespace Go.Proofs.YtlmdhpfggobogaaDoor.G
open Go.RowKit Go.Proofs.YtlmdhpfggobogaaDoorW.PrintWords Go.Proofs.YtlmdhpfggobogaaDoorW.PrintLast
set_option linter.unusedVariables false
def isB (c : Int) : Bool := decide (c = 32 ∨ c = 9 ∨ c = 13)
theorem blank_eq (c : Int) : script_blank.f c = some (isB c) := by
  unfold script_blank.f isB
  by_cases h1 : c = 32
  · rw [if_pos h1]; simp [h1]
  · rw [if_neg h1]
    by_cases h2 : c = 9
    · rw [if_pos h2]; simp [h2]
    · rw [if_neg h2]; simp [h1, h2]; rfl
inductive St where
  | gap
  | bare (w : List Int)
  | quo (w : List Int)
  | shut (w : List Int)
def hashL (acc : List (List Int)) : Bool := (acc.headD []).headD 0 == 35
def run (hs : Bool) : List Int → St → List (List Int) → Option (List (List Int))
  | [], .gap, acc => some acc
  | [], .bare w, acc => if (hs && hashL (acc ++ [w])) = true then some [] else some (acc ++ [w])
  | [], .quo w, acc => none
  | [], .shut w, acc => if (hs && hashL (acc ++ [w])) = true then some [] else some (acc ++ [w])
  | c :: t, .gap, acc => if isB c = true then run hs t .gap acc else if c = 34 then run hs t (.quo [34]) acc else run hs t (.bare [c]) acc
  | c :: t, .bare w, acc => if isB c = true then (if (hs && hashL (acc ++ [w])) = true then some [] else run hs t .gap (acc ++ [w])) else run hs t (.bare (w ++ [c])) acc
  | c :: t, .quo w, acc => if c = 34 then run hs t (.shut (w ++ [34])) acc else run hs t (.quo (w ++ [c])) acc
  | c :: t, .shut w, acc => if isB c = true then (if (hs && hashL (acc ++ [w])) = true then some [] else run hs t .gap (acc ++ [w])) else none
def byI (l : List UInt8) : List Int := l.map fun b => (b.toNat : Int)
theorem quo_run (hs : Bool) : ∀ (l : List UInt8) (w : List Int) (acc : List (List Int)), run hs (byI l) (.quo w) acc = if Lib.indexByte l 34 < 0 then none else run hs ((byI l).drop ((Lib.indexByte l 34).toNat + 1)) (.shut (w ++ (byI l).take ((Lib.indexByte l 34).toNat + 1))) acc
  | [], w, acc => rfl
  | b :: l, w, acc => by
    have ih := quo_run hs l
    have e : byI (b :: l) = (b.toNat : Int) :: byI l := rfl
    rw [e]
    have hge := Lib.indexByte_ge l 34
    by_cases hb : b = 34
    · subst hb
      have e1 : Lib.indexByte (34 :: l) 34 = 0 := rfl
      rw [e1, if_neg (by decide)]
      show run hs (34 :: byI l) (.quo w) acc = _
      simp only [run, if_true]
      rfl
    · have hne : ¬ ((b.toNat : Int) = 34) := by
        intro h
        apply hb
        apply UInt8.toNat_inj.1
        have : (34 : UInt8).toNat = 34 := rfl
        omega
      have e1 : Lib.indexByte (b :: l) 34 = if Lib.indexByte l 34 = -1 then -1 else Lib.indexByte l 34 + 1 := by
        have hbe : (b == 34) = false := by simpa using hb
        conv => lhs; unfold Lib.indexByte
        rw [hbe]
        simp
      have e2 : run hs ((b.toNat : Int) :: byI l) (.quo w) acc = run hs (byI l) (.quo (w ++ [(b.toNat : Int)])) acc := by
        conv => lhs; unfold run
        rw [if_neg hne]
      rw [e1, e2, ih]
      by_cases h : Lib.indexByte l 34 = -1
      · rw [if_pos h, if_pos (by omega), if_pos (by decide)]
      · rw [if_neg h, if_neg (by omega), if_neg (by omega)]
        have e3 : (Lib.indexByte l 34 + 1).toNat + 1 = ((Lib.indexByte l 34).toNat + 1) + 1 := by omega
        rw [e3, List.drop_succ_cons, List.take_succ_cons]
        simp
theorem ext_bytes (s : ByteArray) (a b : Nat) : bytesOf (s.extract a b) = ((bytesOf s).drop a).take (b - a) := by
  unfold bytesOf
  rw [ByteArray.data_extract, Array.toList_extract, List.extract_eq_take_drop, List.map_take, List.map_drop]
theorem ext_snoc (s : ByteArray) (a i : Nat) (h1 : a ≤ i) (h2 : i < s.size) : bytesOf (s.extract a (i + 1)) = bytesOf (s.extract a i) ++ [bt s i] := by
  rw [ext_bytes, ext_bytes, show i + 1 - a = (i - a) + 1 by omega, List.take_succ_eq_append_getElem (by simp [bytesOf_length]; omega)]
  congr 1
  rw [List.getElem_drop, bt_getD, Int.toNat_natCast, List.getD_eq_getElem?_getD, List.getElem?_eq_getElem (by rw [bytesOf_length]; exact h2)]
  simp [show a + (i - a) = i by omega]
theorem ext_self (s : ByteArray) (a : Nat) : bytesOf (s.extract a a) = [] := by rw [ext_bytes, Nat.sub_self, List.take_zero]
theorem ext_size (s : ByteArray) (a b : Nat) (h1 : a < b) (h2 : b ≤ s.size) : 0 < (s.extract a b).size := by
  rw [← bytesOf_length, ext_bytes, List.length_take, List.length_drop, bytesOf_length]; omega
def Said (g : Nat → Option (List ByteArray × Bool)) (o : Option (List (List Int))) : Prop := ∃ L, Ev g (match o with | some l => (l.map strOfNums, true) | none => (L, false))
theorem Said.step {g f : Nat → Option (List ByteArray × Bool)} {o : Option (List (List Int))} (h : ∀ k, g (k + 1) = f k) (k : Said f o) : Said g o := let ⟨L, e⟩ := k; ⟨L, Ev.step h e⟩
theorem Said.congr {g f : Nat → Option (List ByteArray × Bool)} {o : Option (List (List Int))} (h : ∀ k, g k = f k) (k : Said f o) : Said g o := let ⟨L, e⟩ := k; ⟨L, Ev.congr h e⟩
theorem Said.no {g : Nat → Option (List ByteArray × Bool)} {L : List ByteArray} (h : ∀ k, g k = some (L, false)) : Said g none := ⟨L, Ev.congr h (Ev.now _)⟩
theorem Said.yes {g : Nat → Option (List ByteArray × Bool)} {L : List ByteArray} {l : List (List Int)} (hl : l.map strOfNums = L) (h : ∀ k, g k = some (L, true)) : Said g (some l) := ⟨L, Ev.congr h (by subst hl; exact Ev.now _)⟩
theorem map_back (acc : List ByteArray) : (acc.map bytesOf).map strOfNums = acc := by
  rw [List.map_map]
  conv => rhs; rw [← List.map_id acc]
  exact List.map_congr_left fun s _ => str_bytesOf s
theorem hash_eq (y : List ByteArray) : (bt (rdOf ByteArray.empty y 0) 0 = 35) ↔ hashL (y.map bytesOf) = true := by
  unfold hashL
  cases y with
  | nil => decide
  | cons x t =>
    show (bt x 0 = 35) ↔ _
    rw [bt_getD]
    simp only [List.map_cons, List.headD_cons, beq_iff_eq]
    have : ∀ l : List Int, l.getD (0 : Int).toNat 0 = l.headD 0 := fun l => by cases l <;> rfl
    rw [this]
theorem push_said (s : ByteArray) (acc : List ByteArray) (f i : Nat) (hf : f < i) (hi : i ≤ s.size) (hs : s.size < 8796093022208) (ha : acc.length ≤ f) (hw : ∀ w ∈ acc, 0 < w.size)
    (h : Said (fun k => script_words.l0 k s (acc ++ [s.extract f i]) i) (run true ((bytesOf s).drop i) .gap ((acc ++ [s.extract f i]).map bytesOf))) :
    Said (fun k => if (0 : Int) ≤ (f : Int) then (if (f : Int) ≤ (i : Int) then (if (i : Int) ≤ (s.size : Int) then (if acc.length < 8796093022208 then ((some (acc ++ [s.extract (f : Int).toNat (i : Int).toNat] : List ByteArray)).bind fun y111 => (if 0 < (y111.length : Int) then (if 0 < ((rdOf ByteArray.empty y111 0).size : Int) then (if (bt (rdOf ByteArray.empty y111 0) 0) = 35 then (some (([] : List ByteArray), true)) else (script_words.l0 k s y111 i)) else (none)) else (none))) else (none)) else (none)) else (none)) else (none))
      (if (true && hashL (acc.map bytesOf ++ [bytesOf (s.extract f i)])) = true then some [] else run true ((bytesOf s).drop i) .gap (acc.map bytesOf ++ [bytesOf (s.extract f i)])) := by
  have hm : acc.map bytesOf ++ [bytesOf (s.extract f i)] = (acc ++ [s.extract f i]).map bytesOf := by simp
  rw [hm]
  have h0 : 0 < (rdOf ByteArray.empty (acc ++ [s.extract f i]) 0).size := by
    cases acc with
    | nil => exact ext_size s f i hf hi
    | cons x t => exact hw x (by simp)
  have heq := hash_eq (acc ++ [s.extract f i])
  have pre : ∀ k, (if (0 : Int) ≤ (f : Int) then (if (f : Int) ≤ (i : Int) then (if (i : Int) ≤ (s.size : Int) then (if acc.length < 8796093022208 then ((some (acc ++ [s.extract (f : Int).toNat (i : Int).toNat] : List ByteArray)).bind fun y111 => (if 0 < (y111.length : Int) then (if 0 < ((rdOf ByteArray.empty y111 0).size : Int) then (if (bt (rdOf ByteArray.empty y111 0) 0) = 35 then (some (([] : List ByteArray), true)) else (script_words.l0 k s y111 i)) else (none)) else (none))) else (none)) else (none)) else (none)) else (none)) = (if (bt (rdOf ByteArray.empty (acc ++ [s.extract f i]) 0) 0) = 35 then (some (([] : List ByteArray), true)) else (script_words.l0 k s (acc ++ [s.extract f i]) i)) := by
    intro k
    rw [if_pos (by omega), if_pos (by omega), if_pos (by omega), if_pos (by omega), Option.bind_some, Int.toNat_natCast, Int.toNat_natCast, if_pos (by simp <;> omega), if_pos (by omega)]
  refine Said.congr pre ?_
  by_cases hh : hashL ((acc ++ [s.extract f i]).map bytesOf) = true
  · rw [Bool.true_and, if_pos hh]
    exact Said.yes (L := []) rfl (fun k => if_pos (heq.2 hh))
  · rw [Bool.true_and, if_neg hh]
    exact Said.congr (fun k => if_neg (fun e => hh (heq.1 e))) h
theorem words_all (s : ByteArray) (hs : s.size < 8796093022208) : ∀ (d : Nat),
    (∀ (i : Nat) (acc : List ByteArray), i + d = s.size → acc.length ≤ i → (∀ w ∈ acc, 0 < w.size) → Said (fun k => script_words.l0 k s acc i) (run true ((bytesOf s).drop i) .gap (acc.map bytesOf))) ∧
    (∀ (i f : Nat) (acc : List ByteArray), i + d = s.size → acc.length ≤ f → f < i → (∀ w ∈ acc, 0 < w.size) → Said (fun k => script_words.l1 k s acc i f) (run true ((bytesOf s).drop i) (.bare (bytesOf (s.extract f i))) (acc.map bytesOf))) := by
  intro d
  induction d using Nat.strongRecOn with
  | _ d ih =>
    have push2 : ∀ (i f : Nat) (acc : List ByteArray), f < i → i ≤ s.size → (∀ w ∈ acc, 0 < w.size) → ∀ w ∈ acc ++ [s.extract f i], 0 < w.size := by
      intro i f acc h1 h2 h3 w hw
      rcases List.mem_append.1 hw with hw | hw
      · exact h3 w hw
      · rw [List.mem_singleton.1 hw]; exact ext_size s f i h1 h2
    have L0 : ∀ (i : Nat) (acc : List ByteArray), i + d = s.size → acc.length ≤ i → (∀ w ∈ acc, 0 < w.size) → Said (fun k => script_words.l0 k s acc i) (run true ((bytesOf s).drop i) .gap (acc.map bytesOf)) := by
      intro i acc hd ha hw
      by_cases hlt : i < s.size
      · rw [bytesOf_drop s i hlt]
        have hwn := w64_nat i (by omega)
        by_cases hb : isB (bt s i) = true
        · have := (ih (d - 1) (by omega)).1 (i + 1) acc (by omega) (by omega) hw
          have e : run true (bt s i :: (bytesOf s).drop (i + 1)) .gap (acc.map bytesOf) = run true ((bytesOf s).drop (i + 1)) .gap (acc.map bytesOf) := by
            conv => lhs; unfold run
            rw [if_pos hb]
          rw [e]
          refine Said.step (fun k => ?_) this
          simp only [script_words.l0]
          rw [if_pos (by omega), if_pos (by omega), blank_eq, Option.bind_some, if_pos hb, hwn]
        · by_cases hq : bt s i = 34
          · have e : run true (bt s i :: (bytesOf s).drop (i + 1)) .gap (acc.map bytesOf) = run true ((bytesOf s).drop (i + 1)) (.quo [34]) (acc.map bytesOf) := by
              conv => lhs; unfold run
              rw [if_neg hb, if_pos hq]
            rw [e]
            have hsub : byI (s.extract (i + 1) s.size).data.toList = (bytesOf s).drop (i + 1) := by
              show bytesOf (s.extract (i + 1) s.size) = _
              rw [ext_bytes, List.take_of_length_le (by rw [List.length_drop, bytesOf_length]; omega)]
            rw [← hsub, quo_run, hsub]
            have hn := Lib.indexByte_piece s (i + 1) s.size 34
            generalize hN : Lib.indexByte (s.extract (i + 1) s.size).data.toList 34 = n at hn
            have hix : strings_IndexByte.f (s.extract ((((i + 1 : Nat) : Int)).toNat) s.size) 34 = some n := by
              rw [Int.toNat_natCast, ← hN]; rfl
            by_cases hneg : n < 0
            · rw [if_pos hneg]
              refine Said.step (f := fun _ => some (acc, false)) (fun k => ?_) (Said.no (fun _ => rfl))
              simp only [script_words.l0]
              rw [if_pos (by omega), if_pos (by omega), blank_eq, Option.bind_some, if_neg hb, if_pos hq, hwn, if_pos (by omega), if_pos (by omega), hix, Option.bind_some, if_pos hneg]
            · obtain ⟨o, ho, hob⟩ : ∃ o : Nat, n = o ∧ i + 1 + o < s.size := by
                rcases hn with h | h
                · omega
                · exact h
              rw [if_neg hneg]
              subst ho
              have ew : wrap64 ((i : Int) + wrap64 ((o : Int) + 2)) = ((i + o + 2 : Nat) : Int) := by
                rw [w64 (x := (o : Int) + 2) (by omega) (by omega), w64 (by omega) (by omega)]; omega
              have hword : [34] ++ ((bytesOf s).drop (i + 1)).take ((o : Int).toNat + 1) = bytesOf (s.extract i (i + o + 2)) := by
                rw [ext_bytes, show i + o + 2 - i = (o + 1) + 1 by omega, bytesOf_drop s i hlt, List.take_succ_cons, hq, Int.toNat_natCast]; rfl
              have hrest : ((bytesOf s).drop (i + 1)).drop ((o : Int).toNat + 1) = (bytesOf s).drop (i + o + 2) := by
                rw [List.drop_drop, Int.toNat_natCast]; congr 1; omega
              rw [hword, hrest]
              have rec0 : Said (fun k => script_words.l0 k s (acc ++ [s.extract i (i + o + 2)]) ((i + o + 2 : Nat) : Int)) (run true ((bytesOf s).drop (i + o + 2)) .gap ((acc ++ [s.extract i (i + o + 2)]).map bytesOf)) :=
                (ih (d - (o + 2)) (by omega)).1 (i + o + 2) _ (by omega) (by rw [List.length_append, List.length_singleton]; omega) (push2 _ _ _ (by omega) (by omega) hw)
              have P := push_said s acc i (i + o + 2) (by omega) (by omega) hs ha hw rec0
              by_cases hend : i + o + 2 < s.size
              · have ed := bytesOf_drop s (i + o + 2) hend
                by_cases hb2 : isB (bt s ((i + o + 2 : Nat) : Int)) = true
                · have e2 : run true ((bytesOf s).drop (i + o + 2)) (.shut (bytesOf (s.extract i (i + o + 2)))) (acc.map bytesOf) = (if (true && hashL (acc.map bytesOf ++ [bytesOf (s.extract i (i + o + 2))])) = true then some [] else run true ((bytesOf s).drop (i + o + 2)) .gap (acc.map bytesOf ++ [bytesOf (s.extract i (i + o + 2))])) := by
                    rw [ed]
                    conv => lhs; unfold run
                    rw [if_pos hb2]
                    congr 1
                    conv => rhs; unfold run
                    rw [if_pos hb2]
                  rw [e2]
                  refine Said.step (f := fun k => script_words.j1 k s acc ((i + o + 2 : Nat) : Int) i false) (fun k => ?_) (Said.step (fun k => ?_) P)
                  · simp only [script_words.l0]
                    rw [if_pos (by omega), if_pos (by omega), blank_eq, Option.bind_some, if_neg hb, if_pos hq, hwn, if_pos (by omega), if_pos (by omega), hix, Option.bind_some, if_neg hneg, ew, if_pos (by omega), if_pos (by omega), blank_eq, Option.bind_some, hb2]
                    rfl
                  · simp only [script_words.j1]
                    rw [if_neg (by decide)]
                · have e2 : run true ((bytesOf s).drop (i + o + 2)) (.shut (bytesOf (s.extract i (i + o + 2)))) (acc.map bytesOf) = none := by
                    rw [ed]
                    conv => lhs; unfold run
                    rw [if_neg hb2]
                  rw [e2]
                  have hb3 : isB (bt s ((i + o + 2 : Nat) : Int)) = false := by simpa using hb2
                  refine Said.step (f := fun k => script_words.j1 k s acc ((i + o + 2 : Nat) : Int) i true) (fun k => ?_) (Said.step (f := fun _ => some (acc, false)) (fun k => ?_) (Said.no (fun _ => rfl)))
                  · simp only [script_words.l0]
                    rw [if_pos (by omega), if_pos (by omega), blank_eq, Option.bind_some, if_neg hb, if_pos hq, hwn, if_pos (by omega), if_pos (by omega), hix, Option.bind_some, if_neg hneg, ew, if_pos (by omega), if_pos (by omega), blank_eq, Option.bind_some, hb3]
                    rfl
                  · simp only [script_words.j1]
                    rw [if_pos trivial]
              · have en : (bytesOf s).drop (i + o + 2) = [] := List.drop_eq_nil_of_le (by rw [bytesOf_length]; omega)
                have e2 : run true ((bytesOf s).drop (i + o + 2)) (.shut (bytesOf (s.extract i (i + o + 2)))) (acc.map bytesOf) = (if (true && hashL (acc.map bytesOf ++ [bytesOf (s.extract i (i + o + 2))])) = true then some [] else run true ((bytesOf s).drop (i + o + 2)) .gap (acc.map bytesOf ++ [bytesOf (s.extract i (i + o + 2))])) := by
                  rw [en]; rfl
                rw [e2]
                refine Said.step (f := fun k => script_words.j1 k s acc ((i + o + 2 : Nat) : Int) i false) (fun k => ?_) (Said.step (fun k => ?_) P)
                · simp only [script_words.l0]
                  rw [if_pos (by omega), if_pos (by omega), blank_eq, Option.bind_some, if_neg hb, if_pos hq, hwn, if_pos (by omega), if_pos (by omega), hix, Option.bind_some, if_neg hneg, ew, if_neg (by omega)]
                · simp only [script_words.j1]
                  rw [if_neg (by decide)]
          · have e : run true (bt s i :: (bytesOf s).drop (i + 1)) .gap (acc.map bytesOf) = run true ((bytesOf s).drop (i + 1)) (.bare (bytesOf (s.extract i (i + 1)))) (acc.map bytesOf) := by
              rw [ext_snoc s i i (Nat.le_refl _) hlt, ext_self]
              conv => lhs; unfold run
              rw [if_neg hb, if_neg hq]
              rfl
            rw [e]
            have := (ih (d - 1) (by omega)).2 (i + 1) i acc (by omega) ha (by omega) hw
            refine Said.step (f := fun k => script_words.l1 k s acc i i) (fun k => ?_) (Said.step (fun k => ?_) this)
            · simp only [script_words.l0]
              rw [if_pos (by omega), if_pos (by omega), blank_eq, Option.bind_some, if_neg hb, if_neg hq]
            · simp only [script_words.l1]
              rw [if_pos (by omega), if_pos (by omega), blank_eq, Option.bind_some, if_neg hb, hwn]
      · rw [List.drop_eq_nil_of_le (by rw [bytesOf_length]; omega)]
        refine Said.step (f := fun _ => some (acc, true)) (fun k => ?_) (Said.yes (map_back acc) (fun _ => rfl))
        simp only [script_words.l0]
        rw [if_neg (by omega)]
    refine ⟨L0, ?_⟩
    intro i f acc hd ha hf hw
    have rec0 := L0 i (acc ++ [s.extract f i]) hd (by rw [List.length_append, List.length_singleton]; omega) (push2 _ _ _ hf (by omega) hw)
    have P := push_said s acc f i hf (by omega) hs ha hw rec0
    by_cases hlt : i < s.size
    · have ed := bytesOf_drop s i hlt
      by_cases hb : isB (bt s i) = true
      · have e2 : run true ((bytesOf s).drop i) (.bare (bytesOf (s.extract f i))) (acc.map bytesOf) = (if (true && hashL (acc.map bytesOf ++ [bytesOf (s.extract f i)])) = true then some [] else run true ((bytesOf s).drop i) .gap (acc.map bytesOf ++ [bytesOf (s.extract f i)])) := by
          rw [ed]
          conv => lhs; unfold run
          rw [if_pos hb]
          congr 1
          conv => rhs; unfold run
          rw [if_pos hb]
        rw [e2]
        refine Said.step (fun k => ?_) P
        simp only [script_words.l1]
        rw [if_pos (by omega), if_pos (by omega), blank_eq, Option.bind_some, if_pos hb]
      · have e2 : run true ((bytesOf s).drop i) (.bare (bytesOf (s.extract f i))) (acc.map bytesOf) = run true ((bytesOf s).drop (i + 1)) (.bare (bytesOf (s.extract f (i + 1)))) (acc.map bytesOf) := by
          rw [ed, ext_snoc s f i (by omega) hlt]
          conv => lhs; unfold run
          rw [if_neg hb]
        rw [e2]
        have := (ih (d - 1) (by omega)).2 (i + 1) f acc (by omega) ha (by omega) hw
        refine Said.step (fun k => ?_) this
        simp only [script_words.l1]
        rw [if_pos (by omega), if_pos (by omega), blank_eq, Option.bind_some, if_neg hb, w64_nat i (by omega)]
    · have en : (bytesOf s).drop i = [] := List.drop_eq_nil_of_le (by rw [bytesOf_length]; omega)
      have e2 : run true ((bytesOf s).drop i) (.bare (bytesOf (s.extract f i))) (acc.map bytesOf) = (if (true && hashL (acc.map bytesOf ++ [bytesOf (s.extract f i)])) = true then some [] else run true ((bytesOf s).drop i) .gap (acc.map bytesOf ++ [bytesOf (s.extract f i)])) := by
        rw [en]; rfl
      rw [e2]
      refine Said.step (fun k => ?_) P
      simp only [script_words.l1]
      rw [if_neg (by omega)]
theorem words_said (s : ByteArray) (hs : s.size < 8796093022208) : Said (fun k => script_words.f k s) (run true (bytesOf s) .gap []) :=
  (words_all s hs s.size).1 0 [] (by omega) (by simp) (by simp)
end Go.Proofs.YtlmdhpfggobogaaDoor.G
