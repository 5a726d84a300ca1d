/- An op's line as a list of bytes; the reference's line answers it. -/
import Derived.Test.YtlmdhpfggobogaaDoorSpc
import Derived.Test.YtlmdhpfggobogaaDoorFld
import Derived.Test.YtlmdhpfggobogaaDoorGx51
namespace Go.Proofs.YtlmdhpfggobogaaDoor.G
open Go.RowKit Go.Proofs.YtlmdhpfggobogaaDoorW.PrintWords Go.Proofs.YtlmdhpfggobogaaDoorW.PrintLast
set_option linter.unusedVariables false
instance (n : Int) : Decidable (inI n) := inferInstanceAs (Decidable (_ ∧ _))
def shp (a0 : Int) : ByteArray × ByteArray := (script_shapeOf.f a0).getD (⟨#[]⟩, ⟨#[]⟩)
theorem some_ite {α : Type} {c : Prop} [Decidable c] {x y : Option α} (h1 : x.isSome = true) (h2 : y.isSome = true) : (if c then x else y).isSome = true := by split <;> assumption
theorem shp_eq (a0 : Int) : script_shapeOf.f a0 = some (shp a0) := by
  have h : (script_shapeOf.f a0).isSome = true := by
    unfold script_shapeOf.f
    repeat' first | rfl | apply some_ite
  unfold shp
  obtain ⟨v, hv⟩ := Option.isSome_iff_exists.1 h
  rw [hv]; rfl
def rword (a0 : Int) : ByteArray := (barrowref24_word.f a0).getD ⟨#[]⟩
def rshape (a0 : Int) : ByteArray := (barrowref24_shape.f a0).getD ⟨#[]⟩
theorem rword_eq (a0 : Int) : barrowref24_word.f a0 = some (rword a0) := by
  have h : (barrowref24_word.f a0).isSome = true := by
    unfold barrowref24_word.f
    repeat' first | rfl | apply some_ite
  unfold rword
  obtain ⟨v, hv⟩ := Option.isSome_iff_exists.1 h
  rw [hv]; rfl
theorem rshape_eq (a0 : Int) : barrowref24_shape.f a0 = some (rshape a0) := by
  have h : (barrowref24_shape.f a0).isSome = true := by
    unfold barrowref24_shape.f
    repeat' first | rfl | apply some_ite
  unfold rshape
  obtain ⟨v, hv⟩ := Option.isSome_iff_exists.1 h
  rw [hv]; rfl
def opWord : ByteArray := ⟨#[111, 112]⟩
theorem out_of {a0 : Int} (h : a0 < 1 ∨ 16 < a0) : shp a0 = (opWord, ⟨#[107]⟩) ∧ rword a0 = opWord ∧ rshape a0 = ⟨#[75]⟩ := by
  refine ⟨?_, ?_, ?_⟩
  · unfold shp script_shapeOf.f
    (repeat rw [if_neg (by omega)]); rfl
  · unfold rword barrowref24_word.f
    (repeat rw [if_neg (by omega)]); rfl
  · unfold rshape barrowref24_shape.f
    (repeat rw [if_neg (by omega)]); rfl
/-- The letters of the two shapes, one by one. -/
def upL (c : Int) : Int := c - 32
theorem shapes (a0 : Int) : rword a0 = (shp a0).1 ∧ bytesOf (rshape a0) = (bytesOf (shp a0).2).map upL ∧ (∀ c ∈ bytesOf (shp a0).2, c = 115 ∨ c = 114 ∨ c = 99 ∨ c = 116 ∨ c = 113 ∨ c = 110 ∨ c = 107) ∧ (shp a0).1.size ≤ 8 ∧ (shp a0).2.size ≤ 4 := by
  rcases kind_cases a0 with rfl | rfl | rfl | rfl | rfl | rfl | rfl | rfl | rfl | rfl | rfl | rfl | rfl | rfl | rfl | rfl | h | h
  all_goals try exact ⟨rfl, rfl, by decide, by decide, by decide⟩
  all_goals
    obtain ⟨e1, e2, e3⟩ := out_of (a0 := a0) (by omega)
    rw [e1, e2, e3]
    exact ⟨rfl, rfl, by decide, by decide, by decide⟩
def getV (a0 a1 a2 a3 a5 a6 : Int) (c : Int) : Int := if c = 82 then a1 else if c = 67 then a2 else if c = 84 then a3 else if c = 81 then a5 else if c = 78 then a6 else a0
theorem get_eq (a0 a1 a2 a3 : Int) (a4 : ByteArray) (a5 a6 c : Int) : barrowref24_get.f a0 a1 a2 a3 a4 a5 a6 c = some (getV a0 a1 a2 a3 a5 a6 c) := by
  unfold barrowref24_get.f getV
  repeat' split
  all_goals rfl
theorem getV_up (a0 a1 a2 a3 a5 a6 c : Int) (h : c = 115 ∨ c = 114 ∨ c = 99 ∨ c = 116 ∨ c = 113 ∨ c = 110 ∨ c = 107) : getV a0 a1 a2 a3 a5 a6 (upL c) = fldV a0 a1 a2 a3 a5 a6 c := by
  rcases h with rfl | rfl | rfl | rfl | rfl | rfl | rfl <;> rfl
/-- A letter's word behind the line. -/
def pieceI (a0 a1 a2 a3 : Int) (a4 : ByteArray) (a5 a6 : Int) (c : Int) : List Int := 32 :: (if c = 115 then skuI (bytesOf a4) else numI (fldV a0 a1 a2 a3 a5 a6 c))
def lineI (a0 a1 a2 a3 : Int) (a4 : ByteArray) (a5 a6 : Int) : List Int := bytesOf (shp a0).1 ++ (bytesOf (shp a0).2).flatMap (pieceI a0 a1 a2 a3 a4 a5 a6)
def okO (a0 a1 a2 a3 : Int) (a4 : ByteArray) (a5 a6 : Int) : Prop := inI a0 ∧ inI a1 ∧ inI a2 ∧ inI a3 ∧ a4.size ≤ 1048576 ∧ inI a5 ∧ inI a6
instance (a0 a1 a2 a3 : Int) (a4 : ByteArray) (a5 a6 : Int) : Decidable (okO a0 a1 a2 a3 a4 a5 a6) := inferInstanceAs (Decidable (_ ∧ _))
theorem fldV_in {a0 a1 a2 a3 : Int} {a4 : ByteArray} {a5 a6 : Int} (h : okO a0 a1 a2 a3 a4 a5 a6) (c : Int) : inI (fldV a0 a1 a2 a3 a5 a6 c) := by
  obtain ⟨h0, h1, h2, h3, h4, h5, h6⟩ := h
  unfold fldV
  repeat' split
  all_goals assumption
theorem piece_len {a0 a1 a2 a3 : Int} {a4 : ByteArray} {a5 a6 : Int} (h : okO a0 a1 a2 a3 a4 a5 a6) (c : Int) : (pieceI a0 a1 a2 a3 a4 a5 a6 c).length ≤ 5000000 := by
  unfold pieceI
  have h1 := numI_len _ (fldV_in h c)
  have h2 := skuI_len (bytesOf a4)
  rw [bytesOf_length] at h2
  have h4 := h.2.2.2.2.1
  rw [List.length_cons]
  split <;> omega
theorem line_len {a0 a1 a2 a3 : Int} {a4 : ByteArray} {a5 a6 : Int} (h : okO a0 a1 a2 a3 a4 a5 a6) : (lineI a0 a1 a2 a3 a4 a5 a6).length ≤ 20000008 := by
  have key : ∀ l : List Int, (l.flatMap (pieceI a0 a1 a2 a3 a4 a5 a6)).length ≤ 5000000 * l.length := by
    intro l
    induction l with
    | nil => simp
    | cons c t ih => rw [List.flatMap_cons, List.length_append, List.length_cons]; have := piece_len h c; omega
  obtain ⟨_, _, _, h4, h5⟩ := shapes a0
  have := key (bytesOf (shp a0).2)
  unfold lineI
  rw [List.length_append]
  rw [bytesOf_length] at *
  omega
theorem piece_range (a0 a1 a2 a3 : Int) (a4 : ByteArray) (a5 a6 : Int) (c : Int) : ∀ x ∈ pieceI a0 a1 a2 a3 a4 a5 a6 c, 0 ≤ x ∧ x ≤ 255 := by
  unfold pieceI
  intro x hx
  rcases List.mem_cons.1 hx with rfl | hx
  · omega
  · split at hx
    · exact skuI_range _ (bytesOf_range a4) x hx
    · rw [← itoa_bytes] at hx; exact bytesOf_range _ x hx
theorem line_range (a0 a1 a2 a3 : Int) (a4 : ByteArray) (a5 a6 : Int) : ∀ x ∈ lineI a0 a1 a2 a3 a4 a5 a6, 0 ≤ x ∧ x ≤ 255 := by
  unfold lineI
  intro x hx
  rcases List.mem_append.1 hx with hx | hx
  · exact bytesOf_range _ x hx
  · obtain ⟨c, _, hx⟩ := List.mem_flatMap.1 hx
    exact piece_range _ _ _ _ _ _ _ c x hx
/-! ### The reference's line -/
theorem rline_l1 {a0 a1 a2 a3 : Int} {a4 : ByteArray} {a5 a6 : Int} (ho : okO a0 a1 a2 a3 a4 a5 a6) (s : ByteArray) (hs : s.size ≤ 4) (L : List Int) (hL : bytesOf s = L.map upL) (hc : ∀ c ∈ L, c = 115 ∨ c = 114 ∨ c = 99 ∨ c = 116 ∨ c = 113 ∨ c = 110 ∨ c = 107) :
    ∀ (d i : Nat) (acc : List Int), i + d = s.size → acc.length < 140737400000000 + 5000000 * i →
    Ev (fun k => barrowref24_line.l1 k acc s i a0 a1 a2 a3 a4 a5 a6) (acc ++ (L.drop i).flatMap (pieceI a0 a1 a2 a3 a4 a5 a6))
  | 0, i, acc, hd, ha => by
    have hlen : L.length = s.size := by rw [← bytesOf_length, hL, List.length_map]
    rw [List.drop_eq_nil_of_le (by omega), List.flatMap_nil, List.append_nil]
    refine Ev.step (f := fun _ => some acc) (fun k => ?_) (Ev.now _)
    simp only [barrowref24_line.l1]
    rw [if_neg (by omega)]
  | d + 1, i, acc, hd, ha => by
    have hlen : L.length = s.size := by rw [← bytesOf_length, hL, List.length_map]
    have hi : i < L.length := by omega
    have hb : bt s i = upL L[i] := by
      rw [bt_getD, hL, Int.toNat_natCast, List.getD_eq_getElem?_getD, List.getElem?_map, List.getElem?_eq_getElem hi]; rfl
    have hci := hc L[i] (List.getElem_mem hi)
    have hp := piece_len ho L[i]
    have ih := rline_l1 ho s hs L hL hc d (i + 1) (acc ++ pieceI a0 a1 a2 a3 a4 a5 a6 L[i]) (by omega) (by simp; omega)
    rw [List.drop_eq_getElem_cons hi, List.flatMap_cons]
    have e : acc ++ (pieceI a0 a1 a2 a3 a4 a5 a6 L[i] ++ (L.drop (i + 1)).flatMap (pieceI a0 a1 a2 a3 a4 a5 a6)) = acc ++ pieceI a0 a1 a2 a3 a4 a5 a6 L[i] ++ (L.drop (i + 1)).flatMap (pieceI a0 a1 a2 a3 a4 a5 a6) := by simp
    rw [e]
    have step : ∀ k, barrowref24_line.l1 (k + 1) acc s i a0 a1 a2 a3 a4 a5 a6 = (if bt s i = 83 then (barrowref24_sku.f k (acc ++ [32]) a4).bind fun t => barrowref24_line.l1 k t s ((i + 1 : Nat) : Int) a0 a1 a2 a3 a4 a5 a6 else (barrowref24_number.f k (acc ++ [32]) (getV a0 a1 a2 a3 a5 a6 (bt s i))).bind fun t => barrowref24_line.l1 k t s ((i + 1 : Nat) : Int) a0 a1 a2 a3 a4 a5 a6) := by
      intro k
      simp only [barrowref24_line.l1]
      rw [if_pos (by omega), if_pos (by omega), Option.bind_some, if_pos (by omega), w64_nat i (by omega), get_eq]
      rfl
    refine Ev.step step ?_
    by_cases h : L[i] = 115
    · have hb2 : bt s i = 83 := by rw [hb, h]; rfl
      refine Ev.congr (fun k => if_pos hb2) ?_
      have h1 := rsku_ev (acc ++ [32]) a4 ho.2.2.2.2.1 (by simp; omega)
      refine Ev.bind (f := fun k t => barrowref24_line.l1 k t s ((i + 1 : Nat) : Int) a0 a1 a2 a3 a4 a5 a6) h1 ?_
      have e2 : acc ++ [32] ++ skuI (bytesOf a4) = acc ++ pieceI a0 a1 a2 a3 a4 a5 a6 L[i] := by unfold pieceI; rw [if_pos h]; simp
      rw [e2]; exact ih
    · have hb2 : ¬ bt s i = 83 := by rw [hb]; unfold upL; omega
      refine Ev.congr (fun k => if_neg hb2) ?_
      have h1 := number_ev (acc ++ [32]) (fldV a0 a1 a2 a3 a5 a6 L[i]) (fldV_in ho _) (by simp; omega)
      rw [hb, getV_up _ _ _ _ _ _ _ hci]
      refine Ev.bind (f := fun k t => barrowref24_line.l1 k t s ((i + 1 : Nat) : Int) a0 a1 a2 a3 a4 a5 a6) h1 ?_
      have e2 : acc ++ [32] ++ numI (fldV a0 a1 a2 a3 a5 a6 L[i]) = acc ++ pieceI a0 a1 a2 a3 a4 a5 a6 L[i] := by unfold pieceI; rw [if_neg h]; simp
      rw [e2]; exact ih
theorem rline_l0 {a0 a1 a2 a3 : Int} {a4 : ByteArray} {a5 a6 : Int} (ho : okO a0 a1 a2 a3 a4 a5 a6) (s : ByteArray) (hs : s.size ≤ 8) :
    ∀ (d i : Nat) (acc : List Int), i + d = s.size → acc.length < 140737390000000 + i →
    Ev (fun k => barrowref24_line.l0 k acc s i a0 a1 a2 a3 a4 a5 a6) (acc ++ ((bytesOf s).drop i ++ (bytesOf (shp a0).2).flatMap (pieceI a0 a1 a2 a3 a4 a5 a6)))
  | 0, i, acc, hd, ha => by
    obtain ⟨_, h2, h3, _, h5⟩ := shapes a0
    have hsz : (rshape a0).size = (shp a0).2.size := by rw [← bytesOf_length, h2, List.length_map, bytesOf_length]
    have := rline_l1 ho (rshape a0) (by omega) _ h2 h3 (rshape a0).size 0 acc (by omega) (by omega)
    rw [List.drop_eq_nil_of_le (by rw [bytesOf_length]; omega), List.nil_append]
    refine Ev.step (fun k => ?_) this
    simp only [barrowref24_line.l0]
    rw [if_neg (by omega), rshape_eq, Option.bind_some]
    rfl
  | d + 1, i, acc, hd, ha => by
    have ih := rline_l0 ho s hs d (i + 1) (acc ++ [bt s i]) (by omega) (by simp; omega)
    rw [bytesOf_drop s i (by omega)]
    have e : acc ++ (bt s i :: (bytesOf s).drop (i + 1) ++ (bytesOf (shp a0).2).flatMap (pieceI a0 a1 a2 a3 a4 a5 a6)) = acc ++ [bt s i] ++ ((bytesOf s).drop (i + 1) ++ (bytesOf (shp a0).2).flatMap (pieceI a0 a1 a2 a3 a4 a5 a6)) := by simp
    rw [e]
    refine Ev.step (fun k => ?_) ih
    simp only [barrowref24_line.l0]
    rw [if_pos (by omega), if_pos (by omega), if_pos (by omega), w64_nat i (by omega)]
theorem rline_ev {a0 a1 a2 a3 : Int} {a4 : ByteArray} {a5 a6 : Int} (ho : okO a0 a1 a2 a3 a4 a5 a6) (l : List Int) (hl : l.length < 140737390000000) :
    Ev (fun k => barrowref24_line.f k l a0 a1 a2 a3 a4 a5 a6) (l ++ lineI a0 a1 a2 a3 a4 a5 a6) := by
  obtain ⟨h1, _, _, h4, _⟩ := shapes a0
  have := rline_l0 ho (rword a0) (by rw [h1]; exact h4) (rword a0).size 0 l (by omega) (by omega)
  unfold lineI
  rw [← h1]
  refine Ev.congr (fun k => ?_) (by simpa using this)
  unfold barrowref24_line.f
  rw [rword_eq, Option.bind_some]
end Go.Proofs.YtlmdhpfggobogaaDoor.G
