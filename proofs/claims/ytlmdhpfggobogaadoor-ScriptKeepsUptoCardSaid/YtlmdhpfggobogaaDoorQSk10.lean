import Derived.Test.YtlmdhpfggobogaaDoorQSk5
import Derived.Test.YtlmdhpfggobogaaDoorQSk8
import Derived.Test.YtlmdhpfggobogaaDoorQSk9
namespace Go.Proofs.YtlmdhpfggobogaaDoor.G
open Go.RowKit Go.Proofs.YtlmdhpfggobogaaDoorW.PrintWords Go.Proofs.YtlmdhpfggobogaaDoorW.PrintLast
open Go.Proofs.YtlmdhpfggobogaaDoor.Dec (digs sdig sdig_pos sdig_zero sdig_len decDigits_digs)
set_option linter.unusedVariables false
theorem w64 {x : Int} (h1 : -9223372036854775808 ≤ x) (h2 : x < 9223372036854775808) : wrap64 x = x := by unfold wrap64; omega
theorem w64_nat (n : Nat) (h : n < 4611686018427387904) : wrap64 ((n : Int) + 1) = ((n + 1 : Nat) : Int) := by unfold wrap64; omega
theorem bt_range (s : ByteArray) (i : Int) : 0 ≤ bt s i ∧ bt s i ≤ 255 := by
  unfold bt
  split
  · rename_i h; have := UInt8.toNat_lt (s.get i.toNat h); constructor <;> first | omega | (show ((s.get i.toNat h).toNat : Int) ≤ 255; omega)
  · omega
theorem bytes_mk (l : List UInt8) : bytesOf ⟨l.toArray⟩ = l.map fun c => (c.toNat : Int) := rfl
def inI (n : Int) : Prop := -9223372036854775808 ≤ n ∧ n ≤ 9223372036854775807
def numI (n : Int) : List Int := if n < 0 then 45 :: digs n.natAbs else digs n.natAbs
def itoaB (n : Int) : ByteArray := ⟨(Lib.itoa n).toArray⟩
theorem itoa_bytes (n : Int) : bytesOf (itoaB n) = numI n := by
  unfold itoaB numI
  rw [bytes_mk]
  unfold Lib.itoa
  split
  · rw [List.map_cons, decDigits_digs]; rfl
  · have : n.natAbs = n.toNat := by omega
    rw [decDigits_digs, this]
theorem digs_len20 (n : Nat) (h : n ≤ 9223372036854775808) : (digs n).length ≤ 19 := by
  unfold digs
  split
  · simp
  · exact sdig_len n 19 (by omega)
theorem numI_len (n : Int) (h : inI n) : (numI n).length ≤ 20 := by
  have := digs_len20 n.natAbs (by unfold inI at h; omega)
  unfold numI
  split
  · simp; omega
  · omega
theorem digs_step (n : Nat) : digs n = (if n / 10 = 0 then [] else digs (n / 10)) ++ [48 + ((n % 10 : Nat) : Int)] := by
  by_cases h : n = 0
  · subst h; rfl
  · have e : digs n = sdig n := by unfold digs; rw [if_neg h]
    rw [e, sdig_pos (by omega)]
    by_cases h1 : n / 10 = 0
    · rw [if_pos h1, h1, sdig_zero]
    · rw [if_neg h1]
      have e1 : digs (n / 10) = sdig (n / 10) := by unfold digs; rw [if_neg h1]
      rw [e1]
def hexB : ByteArray := ⟨#[48, 49, 50, 51, 52, 53, 54, 55, 56, 57, 97, 98, 99, 100, 101, 102]⟩
def litI (c : Int) : Bool := decide (33 ≤ c ∧ c ≤ 126 ∧ c ≠ 34 ∧ c ≠ 92)
def escI (c : Int) : List Int := if litI c = true then [c] else [92, 120, bt hexB (c / 16), bt hexB (c % 16)]
def goodI (l : List Int) : Bool := (checkL l).2 == 0
def quoI (l : List Int) : List Int := 34 :: (l.flatMap escI ++ [34])
def skuI (l : List Int) : List Int := if goodI l = true then l else quoI l
def skuB (s : ByteArray) : ByteArray := strOfNums (skuI (bytesOf s))
theorem escI_len (c : Int) : (escI c).length ≤ 4 := by unfold escI; split <;> simp
theorem esc_len (l : List Int) : (l.flatMap escI).length ≤ 4 * l.length := by
  induction l with
  | nil => simp
  | cons c t ih => rw [List.flatMap_cons, List.length_append, List.length_cons]; have := escI_len c; omega
theorem skuI_len (l : List Int) : (skuI l).length ≤ 4 * l.length + 2 := by
  have := esc_len l
  unfold skuI quoI
  split
  · omega
  · simp at this ⊢; omega
theorem escI_range (c : Int) (h : 0 ≤ c ∧ c ≤ 255) : ∀ x ∈ escI c, 0 ≤ x ∧ x ≤ 255 := by
  unfold escI
  have h1 := bt_range hexB (c / 16)
  have h2 := bt_range hexB (c % 16)
  split <;> intro x hx <;> simp at hx
  · omega
  · rcases hx with rfl | rfl | rfl | rfl <;> omega
theorem skuI_range (l : List Int) (h : ∀ c ∈ l, 0 ≤ c ∧ c ≤ 255) : ∀ x ∈ skuI l, 0 ≤ x ∧ x ≤ 255 := by
  unfold skuI quoI
  split
  · exact h
  · intro x hx
    simp at hx
    rcases hx with rfl | ⟨c, hc, hx⟩ | rfl
    · omega
    · exact escI_range c (h c hc) x hx
    · omega
theorem skuB_bytes (s : ByteArray) : bytesOf (skuB s) = skuI (bytesOf s) := bytesOf_str _ (skuI_range _ (bytesOf_range s))
theorem literal_eq (c : Int) : script_literal.f c = some (litI c) := by
  unfold script_literal.f litI
  by_cases h1 : c ≥ 33
  · rw [if_pos h1]
    by_cases h2 : c ≤ 126
    · rw [if_pos h2]
      by_cases h3 : c = 34
      · rw [if_pos h3]; subst h3; rfl
      · rw [if_neg h3]; congr 1
        by_cases h4 : c = 92
        · subst h4; rfl
        · have : (c != 92) = true := by simpa using h4
          rw [this]; symm; simp; omega
    · rw [if_neg h2]; congr 1; symm; simp; omega
  · rw [if_neg h1]; congr 1; symm; simp; omega
theorem and15 (c : Int) (h : 0 ≤ c ∧ c ≤ 255) : Go.bits .and .u8 c 15 = c % 16 := by
  have key : ∀ n : Fin 256, Go.bits .and .u8 ((n.val : Nat) : Int) 15 = ((n.val : Nat) : Int) % 16 := by decide +kernel
  have := key ⟨c.toNat, by omega⟩
  have e : ((c.toNat : Nat) : Int) = c := by omega
  simpa [e] using this
theorem good_ev (s : ByteArray) : Ev (fun k => goods_Good.f k s) (goodI (bytesOf s)) := by
  refine ⟨49, fun k hk => ?_⟩
  show goods_Good.f k s = _
  unfold goods_Good.f
  rw [check_eq s k (by omega)]
  rfl
theorem skuWord_l0 (s : ByteArray) (hs : s.size ≤ 1048576) : ∀ (d i : Nat) (acc : List Int), i + d = s.size → acc.length ≤ 4 * i + 1 →
    Ev (fun k => script_skuWord.l0 k s acc i) (strOfNums (acc ++ (((bytesOf s).drop i).flatMap escI ++ [34])))
  | 0, i, acc, hd, ha => by
    rw [List.drop_eq_nil_of_le (by rw [bytesOf_length]; omega)]
    refine Ev.step (f := fun _ => some (strOfNums (acc ++ [34]))) (fun k => ?_) (Ev.now _)
    simp only [script_skuWord.l0]
    rw [if_neg (by omega), if_pos (by omega)]
  | d + 1, i, acc, hd, ha => by
    have hr := bt_range s i
    have ih := skuWord_l0 s hs d (i + 1) (acc ++ escI (bt s i)) (by omega) (by have := escI_len (bt s i); simp; omega)
    rw [bytesOf_drop s i (by omega), List.flatMap_cons]
    have e : acc ++ (escI (bt s i) ++ ((bytesOf s).drop (i + 1)).flatMap escI ++ [34]) = acc ++ escI (bt s i) ++ (((bytesOf s).drop (i + 1)).flatMap escI ++ [34]) := by simp
    rw [e]
    refine Ev.step (fun k => ?_) ih
    simp only [script_skuWord.l0]
    rw [if_pos (by omega), if_pos (by omega), literal_eq, Option.bind_some, and15 _ hr, w64_nat i (by omega)]
    by_cases h : litI (bt s i) = true
    · have e2 : escI (bt s i) = [bt s i] := by unfold escI; rw [if_pos h]
      rw [if_pos h, if_pos (by omega), e2]
    · have e2 : escI (bt s i) = [92, 120, bt hexB (bt s i / 16), bt hexB (bt s i % 16)] := by unfold escI; rw [if_neg h]
      rw [if_neg h, if_pos (by omega), if_pos (by omega), if_pos (by omega), if_pos (by omega), Option.bind_some, if_pos (by simp; omega), e2]
      rfl
theorem skuWord_ev (s : ByteArray) (hs : s.size ≤ 1048576) : Ev (fun k => script_skuWord.f k s) (skuB s) := by
  unfold skuB skuI
  by_cases h : goodI (bytesOf s) = true
  · rw [if_pos h, str_bytesOf]
    refine Ev.bind (f := fun k t => if t = true then some s else script_skuWord.l0 k s [34] 0) (good_ev s) ?_
    rw [h]
    exact Ev.congr (fun _ => if_pos rfl) (Ev.now _)
  · rw [if_neg h]
    refine Ev.bind (f := fun k t => if t = true then some s else script_skuWord.l0 k s [34] 0) (good_ev s) ?_
    refine Ev.congr (fun _ => if_neg h) ?_
    have := skuWord_l0 s hs s.size 0 [34] (by omega) (by simp)
    simpa [quoI] using this
end Go.Proofs.YtlmdhpfggobogaaDoor.G

namespace Go.Proofs.YtlmdhpfggobogaaDoor.G
open Go.RowKit Go.Proofs.YtlmdhpfggobogaaDoorW.PrintWords Go.Proofs.YtlmdhpfggobogaaDoorW.PrintLast
set_option linter.unusedVariables false
instance (n : Int) : Decidable (inI n) := inferInstanceAs (Decidable (_ ∧ _))
def shp (a0 : Int) : ByteArray × ByteArray := (script_shapeOf.f a0).getD (⟨#[]⟩, ⟨#[]⟩)
theorem some_ite {α : Type} {c : Prop} [Decidable c] {x y : Option α} (h1 : x.isSome = true) (h2 : y.isSome = true) : (if c then x else y).isSome = true := by split <;> assumption
theorem shp_eq (a0 : Int) : script_shapeOf.f a0 = some (shp a0) := by
  have h : (script_shapeOf.f a0).isSome = true := by
    unfold script_shapeOf.f
    repeat' first | rfl | apply some_ite
  unfold shp
  obtain ⟨v, hv⟩ := Option.isSome_iff_exists.1 h
  rw [hv]; rfl
def rword (a0 : Int) : ByteArray := (barrowref24_word.f a0).getD ⟨#[]⟩
def rshape (a0 : Int) : ByteArray := (barrowref24_shape.f a0).getD ⟨#[]⟩
def opWord : ByteArray := ⟨#[111, 112]⟩
theorem out_of {a0 : Int} (h : a0 < 1 ∨ 16 < a0) : shp a0 = (opWord, ⟨#[107]⟩) ∧ rword a0 = opWord ∧ rshape a0 = ⟨#[75]⟩ := by
  refine ⟨?_, ?_, ?_⟩
  · unfold shp script_shapeOf.f
    (repeat rw [if_neg (by omega)]); rfl
  · unfold rword barrowref24_word.f
    (repeat rw [if_neg (by omega)]); rfl
  · unfold rshape barrowref24_shape.f
    (repeat rw [if_neg (by omega)]); rfl
def upL (c : Int) : Int := c - 32
theorem shapes (a0 : Int) : rword a0 = (shp a0).1 ∧ bytesOf (rshape a0) = (bytesOf (shp a0).2).map upL ∧ (∀ c ∈ bytesOf (shp a0).2, c = 115 ∨ c = 114 ∨ c = 99 ∨ c = 116 ∨ c = 113 ∨ c = 110 ∨ c = 107) ∧ (shp a0).1.size ≤ 8 ∧ (shp a0).2.size ≤ 4 := by
  rcases kind_cases a0 with rfl | rfl | rfl | rfl | rfl | rfl | rfl | rfl | rfl | rfl | rfl | rfl | rfl | rfl | rfl | rfl | h | h
  all_goals try exact ⟨rfl, rfl, by decide, by decide, by decide⟩
  all_goals
    obtain ⟨e1, e2, e3⟩ := out_of (a0 := a0) (by omega)
    rw [e1, e2, e3]
    exact ⟨rfl, rfl, by decide, by decide, by decide⟩
def pieceI (a0 a1 a2 a3 : Int) (a4 : ByteArray) (a5 a6 : Int) (c : Int) : List Int := 32 :: (if c = 115 then skuI (bytesOf a4) else numI (fldV a0 a1 a2 a3 a5 a6 c))
def lineI (a0 a1 a2 a3 : Int) (a4 : ByteArray) (a5 a6 : Int) : List Int := bytesOf (shp a0).1 ++ (bytesOf (shp a0).2).flatMap (pieceI a0 a1 a2 a3 a4 a5 a6)
def okO (a0 a1 a2 a3 : Int) (a4 : ByteArray) (a5 a6 : Int) : Prop := inI a0 ∧ inI a1 ∧ inI a2 ∧ inI a3 ∧ a4.size ≤ 1048576 ∧ inI a5 ∧ inI a6
instance (a0 a1 a2 a3 : Int) (a4 : ByteArray) (a5 a6 : Int) : Decidable (okO a0 a1 a2 a3 a4 a5 a6) := inferInstanceAs (Decidable (_ ∧ _))
theorem fldV_in {a0 a1 a2 a3 : Int} {a4 : ByteArray} {a5 a6 : Int} (h : okO a0 a1 a2 a3 a4 a5 a6) (c : Int) : inI (fldV a0 a1 a2 a3 a5 a6 c) := by
  obtain ⟨h0, h1, h2, h3, h4, h5, h6⟩ := h
  unfold fldV
  repeat' split
  all_goals assumption
theorem piece_len {a0 a1 a2 a3 : Int} {a4 : ByteArray} {a5 a6 : Int} (h : okO a0 a1 a2 a3 a4 a5 a6) (c : Int) : (pieceI a0 a1 a2 a3 a4 a5 a6 c).length ≤ 5000000 := by
  unfold pieceI
  have h1 := numI_len _ (fldV_in h c)
  have h2 := skuI_len (bytesOf a4)
  rw [bytesOf_length] at h2
  have h4 := h.2.2.2.2.1
  rw [List.length_cons]
  split <;> omega
theorem line_len {a0 a1 a2 a3 : Int} {a4 : ByteArray} {a5 a6 : Int} (h : okO a0 a1 a2 a3 a4 a5 a6) : (lineI a0 a1 a2 a3 a4 a5 a6).length ≤ 20000008 := by
  have key : ∀ l : List Int, (l.flatMap (pieceI a0 a1 a2 a3 a4 a5 a6)).length ≤ 5000000 * l.length := by
    intro l
    induction l with
    | nil => simp
    | cons c t ih => rw [List.flatMap_cons, List.length_append, List.length_cons]; have := piece_len h c; omega
  obtain ⟨_, _, _, h4, h5⟩ := shapes a0
  have := key (bytesOf (shp a0).2)
  unfold lineI
  rw [List.length_append]
  rw [bytesOf_length] at *
  omega
theorem piece_range (a0 a1 a2 a3 : Int) (a4 : ByteArray) (a5 a6 : Int) (c : Int) : ∀ x ∈ pieceI a0 a1 a2 a3 a4 a5 a6 c, 0 ≤ x ∧ x ≤ 255 := by
  unfold pieceI
  intro x hx
  rcases List.mem_cons.1 hx with rfl | hx
  · omega
  · split at hx
    · exact skuI_range _ (bytesOf_range a4) x hx
    · rw [← itoa_bytes] at hx; exact bytesOf_range _ x hx
theorem line_range (a0 a1 a2 a3 : Int) (a4 : ByteArray) (a5 a6 : Int) : ∀ x ∈ lineI a0 a1 a2 a3 a4 a5 a6, 0 ≤ x ∧ x ≤ 255 := by
  unfold lineI
  intro x hx
  rcases List.mem_append.1 hx with hx | hx
  · exact bytesOf_range _ x hx
  · obtain ⟨c, _, hx⟩ := List.mem_flatMap.1 hx
    exact piece_range _ _ _ _ _ _ _ c x hx
end Go.Proofs.YtlmdhpfggobogaaDoor.G
