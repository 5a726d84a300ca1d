import Derived.Test.YtlmdcpooogaolaaDoorQTh13
import Derived.Test.YtlmdcpooogaolaaDoorQTh18
import Derived.Test.YtlmdcpooogaolaaDoorQTh9
import Derived.Test.YtlmdcpooogaolaaDoorQTh10
/- What span.Read answers, told of the text's bytes: pieces, strict runs. -/
namespace Go.Proofs.YtlmdcpooogaolaaDoor.Txt
open Go.RowKit Go.Proofs.YtlmdcpooogaolaaDoor.G Go.Proofs.YtlmdcpooogaolaaDoor.Dec Go.Proofs.YtlmdcpooogaolaaDoor.Pure Go.Proofs.YtlmdcpooogaolaaDoorW.PrintWords Go.Proofs.YtlmdcpooogaolaaDoorW.PrintLast
set_option linter.unusedVariables false
def ints (l : List UInt8) : List Int := l.map fun b => (b.toNat : Int)
theorem bytes_ints (s : ByteArray) : bytesOf s = ints s.data.toList := rfl
theorem bytes_mk (l : List UInt8) : bytesOf ⟨l.toArray⟩ = ints l := rfl
theorem u8_eq (a c : UInt8) : a = c ↔ ((a.toNat : Int) = (c.toNat : Int)) := by
  constructor
  · intro h; rw [h]
  · intro h; exact UInt8.toNat_inj.1 (by omega)
theorem ints_inj : ∀ a b : List UInt8, ints a = ints b → a = b
  | [], [], _ => rfl
  | [], _ :: _, h => by cases h
  | _ :: _, [], h => by cases h
  | x :: a, y :: b, h => by
    simp only [ints, List.map_cons, List.cons.injEq] at h
    rw [(u8_eq x y).2 h.1, ints_inj a b h.2]
theorem index_dots : ∀ l : List UInt8, (dotsL (ints l) = none ∧ Lib.index l [46, 46] = -1) ∨ ∃ i : Nat, Lib.index l [46, 46] = i ∧ dotsL (ints l) = some (ints (l.take i), ints (l.drop (i + 2)))
  | [] => .inl ⟨rfl, rfl⟩
  | [a] => .inl ⟨rfl, by
      unfold Lib.index
      rw [if_neg (by simp [List.isPrefixOf])]
      rfl⟩
  | a :: b :: t => by
    have ih := index_dots (b :: t)
    by_cases h : a = 46 ∧ b = 46
    · refine .inr ⟨0, ?_, ?_⟩
      · unfold Lib.index
        rw [if_pos (by simp [List.isPrefixOf, h.1, h.2])]; rfl
      · obtain ⟨rfl, rfl⟩ := h
        simp [ints, dotsL]
    · have hp : ([46, 46] : List UInt8).isPrefixOf (a :: b :: t) = false := by
        simp only [List.isPrefixOf, Bool.and_true, Bool.and_eq_false_iff, beq_eq_false_iff_ne]
        by_cases ha : a = 46
        · exact .inr (fun e => h ⟨ha, e.symm⟩)
        · exact .inl (fun e => ha e.symm)
      have hd : ¬ ((a.toNat : Int) = 46 ∧ (b.toNat : Int) = 46) := fun e => h ⟨(u8_eq a 46).2 e.1, (u8_eq b 46).2 e.2⟩
      have e2 : dotsL (ints (a :: b :: t)) = (dotsL (ints (b :: t))).map fun x => ((a.toNat : Int) :: x.1, x.2) := by
        show dotsL ((a.toNat : Int) :: (b.toNat : Int) :: ints t) = _
        rw [dotsL, if_neg hd]; rfl
      have e3 : Lib.index (a :: b :: t) [46, 46] = if Lib.index (b :: t) [46, 46] == -1 then -1 else Lib.index (b :: t) [46, 46] + 1 := by
        conv => lhs; unfold Lib.index
        rw [hp]; rfl
      rw [e2, e3]
      rcases ih with ⟨h1, h2⟩ | ⟨i, h1, h2⟩
      · exact .inl ⟨by rw [h1]; rfl, by rw [h2]; rfl⟩
      · refine .inr ⟨i + 1, ?_, ?_⟩
        · rw [h1, if_neg (by simp)]; rfl
        · rw [h2]; rfl
theorem index_comma : ∀ l : List UInt8, (splitL (ints l) = [ints l] ∧ Lib.indexByte l 44 = -1) ∨ ∃ i : Nat, Lib.indexByte l 44 = i ∧ splitL (ints l) = ints (l.take i) :: splitL (ints (l.drop (i + 1)))
  | [] => .inl ⟨rfl, rfl⟩
  | a :: t => by
    have ih := index_comma t
    by_cases h : a = 44
    · refine .inr ⟨0, ?_, ?_⟩
      · unfold Lib.indexByte
        rw [if_pos (by simp [h])]; rfl
      · subst h
        simp [ints, splitL]
    · have hd : ¬ ((a.toNat : Int) = 44) := fun e => h ((u8_eq a 44).2 e)
      have e3 : Lib.indexByte (a :: t) 44 = if Lib.indexByte t 44 == -1 then -1 else Lib.indexByte t 44 + 1 := by
        conv => lhs; unfold Lib.indexByte
        rw [if_neg (by simpa using h)]
      have e2 : splitL (ints (a :: t)) = match splitL (ints t) with | [] => [[(a.toNat : Int)]] | p :: ps => ((a.toNat : Int) :: p) :: ps := by
        show splitL ((a.toNat : Int) :: ints t) = _
        rw [splitL, if_neg hd]
        cases splitL (ints t) <;> rfl
      rw [e2, e3]
      rcases ih with ⟨h1, h2⟩ | ⟨i, h1, h2⟩
      · exact .inl ⟨by rw [h1]; rfl, by rw [h2]; rfl⟩
      · refine .inr ⟨i + 1, ?_, ?_⟩
        · rw [h1, if_neg (by simp)]; rfl
        · rw [h2]; rfl
theorem bytes_take (s : ByteArray) (i : Nat) : bytesOf (s.extract 0 i) = ints (s.data.toList.take i) := by
  rw [Lib.extract_eq, bytes_mk]; simp
theorem bytes_from (s : ByteArray) (i : Nat) : bytesOf (s.extract i s.size) = ints (s.data.toList.drop i) := by
  rw [bytes_ints, Lib.extract_to_end]
theorem spl_bytes : ∀ (k : Nat) (s : ByteArray), s.size < k → (spl k s).map bytesOf = splitL (bytesOf s)
  | 0, s, h => by omega
  | k + 1, s, h => by
    rw [bytes_ints]
    rcases index_comma s.data.toList with ⟨h1, h2⟩ | ⟨i, h1, h2⟩
    · rw [spl_miss _ s h2, h1]; rfl
    · rcases comma_cases s with e | ⟨j, e, hj⟩
      · rw [e] at h1; omega
      · obtain rfl : j = i := by rw [e] at h1; omega
        rw [spl_hit k s j e, List.map_cons, spl_bytes k _ (by simp; omega), h2, bytes_take, bytes_from]
theorem split_bytes (s : ByteArray) : (split s).map bytesOf = splitL (bytesOf s) := spl_bytes _ s (Nat.lt_succ_self _)
theorem strict_eq (x : ByteArray) : (runD x, okD x) = strictL (bytesOf x) := by
  have hd : (⟨#[46, 46]⟩ : ByteArray).data.toList = [46, 46] := rfl
  unfold strictL
  rw [bytes_ints]
  rcases index_dots x.data.toList with ⟨h1, h2⟩ | ⟨i, h1, h2⟩
  · have hc : cutD x = (x.data.toList, [], false) := by
      unfold cutD Lib.cut
      rw [hd, if_neg (by omega)]
    have hl : loD x = numL (ints x.data.toList) := by unfold loD; rw [hc]; rfl
    have hh : hiD x = numL (ints x.data.toList) := by unfold hiD; rw [hc, if_neg (by simp)]; exact hl
    rw [h1]
    unfold runD okD
    rw [hl, hh, hc]
    simp
  · have hc : cutD x = (x.data.toList.take i, x.data.toList.drop (i + 2), true) := by
      unfold cutD Lib.cut
      rw [hd, h1, if_pos (by omega)]; simp
    have hl : loD x = numL (ints (x.data.toList.take i)) := by unfold loD; rw [hc]; rfl
    have hh : hiD x = numL (ints (x.data.toList.drop (i + 2))) := by unfold hiD; rw [hc, if_pos rfl]; rfl
    rw [h2]
    unfold runD okD
    rw [hl, hh, hc]
    simp
theorem toList_bytes (s : ByteArray) : s.toList = [110, 111, 110, 101] ↔ bytesOf s = [110, 111, 110, 101] := by
  rw [ByteArray.toList_eq, bytes_ints]
  constructor
  · intro h; rw [h]; rfl
  · intro h; exact ints_inj _ _ h
theorem all_strict (s : ByteArray) : (split s).all okD = (splitL (bytesOf s)).all fun p => (strictL p).2 := by
  rw [← split_bytes, List.all_map]
  congr 1
  funext x
  exact congrArg Prod.snd (strict_eq x)
theorem map_strict (s : ByteArray) : (split s).map runD = (splitL (bytesOf s)).map fun p => (strictL p).1 := by
  rw [← split_bytes, List.map_map]
  congr 1
  funext x
  exact congrArg Prod.fst (strict_eq x)
theorem NormFrom.good {l : List S32} : ∀ {last : Int}, -1 ≤ last → NormFrom last l → ∀ r ∈ l, Pure.Good r := by
  induction l with
  | nil => intro _ _ _ r h; cases h
  | cons a t ih =>
    intro last hl h r hr
    obtain ⟨h1, h2, h3, h4⟩ := h
    rcases List.mem_cons.1 hr with rfl | hr
    · exact ⟨by omega, h2, h3⟩
    · exact ih (by omega) h4 r hr
theorem split_txt (n : List S32) (h : n ≠ []) : splitL (txt n) = n.map runText := by
  unfold txt
  refine split_join _ (by simpa using h) ?_
  intro p hp
  obtain ⟨r, _, rfl⟩ := List.mem_map.1 hp
  exact runText_no r
theorem txt_ne (n : List S32) (h : n ≠ []) : txt n ≠ [110, 111, 110, 101] := by
  intro e
  have h1 := split_txt n h
  rw [e] at h1
  have h2 : splitL [110, 111, 110, 101] = [[110, 111, 110, 101]] := rfl
  rw [h2] at h1
  cases n with
  | nil => exact h rfl
  | cons r t =>
    simp only [List.map_cons, List.cons.injEq] at h1
    have h3 := h1.1
    unfold runText at h3
    have h4 := digs_dig r.f0.toNat
    cases hd : digs r.f0.toNat with
    | nil => exact digs_ne _ hd
    | cons c u =>
      rw [hd] at h3 h4
      simp only [List.cons_append, List.cons.injEq] at h3
      have := h4 c (by simp)
      omega
/-- The text of a form is read as it. -/
theorem read_txt (s : ByteArray) (n : List S32) (hn : Norm n) (hne : n ≠ []) (h : bytesOf s = txt n) : readD s = (n, 0) := by
  have hg := NormFrom.good (by omega) hn
  unfold readD
  rw [if_neg (fun e => txt_ne n hne (by rw [← h]; exact (toList_bytes s).1 e)), all_strict, map_strict, h, split_txt n hne, List.all_map, List.map_map]
  have e1 : (n.map ((fun p => (strictL p).1) ∘ runText)) = n := by
    have : n.map ((fun p => (strictL p).1) ∘ runText) = n.map id := List.map_congr_left fun r hr => by simp [strict_run r (hg r hr)]
    rw [this, List.map_id]
  have e2 : (n.all ((fun p => (strictL p).2) ∘ runText)) = true := List.all_eq_true.2 fun r hr => by simp [strict_run r (hg r hr)]
  rw [if_pos e2, e1, if_pos ((normB_iff n (-1)).2 hn)]
/-- Whatever else is refused. -/
theorem read_back (s : ByteArray) (h0 : bytesOf s ≠ [110, 111, 110, 101]) : (∃ n, Norm n ∧ n ≠ [] ∧ bytesOf s = txt n ∧ readD s = (n, 0)) ∨ readD s = ([], 17) := by
  by_cases ha : (splitL (bytesOf s)).all (fun p => (strictL p).2) = true
  · by_cases hb : normB (-1) ((splitL (bytesOf s)).map fun p => (strictL p).1) = true
    · refine .inl ⟨(splitL (bytesOf s)).map fun p => (strictL p).1, (normB_iff _ _).1 hb, by simpa using splitL_ne (bytesOf s), ?_, ?_⟩
      · unfold txt
        rw [List.map_map]
        have : (splitL (bytesOf s)).map (runText ∘ fun p => (strictL p).1) = (splitL (bytesOf s)).map id :=
          List.map_congr_left fun p hp => ((strict_back p (List.all_eq_true.1 ha p hp)).1).symm
        rw [this, List.map_id, join_split]
      · unfold readD
        rw [if_neg (fun e => h0 ((toList_bytes s).1 e)), all_strict, if_pos ha, map_strict, if_pos hb]
    · right
      unfold readD
      rw [if_neg (fun e => h0 ((toList_bytes s).1 e)), all_strict, if_pos ha, map_strict, if_neg hb]
  · right
    unfold readD
    rw [if_neg (fun e => h0 ((toList_bytes s).1 e)), all_strict, if_neg ha]
end Go.Proofs.YtlmdcpooogaolaaDoor.Txt

/- The reference's numbers, pieces and texts. -/
namespace Go.Proofs.YtlmdcpooogaolaaDoor.Txt
open Go.RowKit Go.Proofs.YtlmdcpooogaolaaDoor.G Go.Proofs.YtlmdcpooogaolaaDoor.Dec Go.Proofs.YtlmdcpooogaolaaDoor.Pure Go.Proofs.YtlmdcpooogaolaaDoorW.PrintWords Go.Proofs.YtlmdcpooogaolaaDoorW.PrintLast
set_option linter.unusedVariables false
/-! ### A number -/
/-! ### A piece -/
end Go.Proofs.YtlmdcpooogaolaaDoor.Txt

/- The reference's texts of runs: its digits, its Show. -/
namespace Go.Proofs.YtlmdcpooogaolaaDoor.Txt
open Go.RowKit Go.Proofs.YtlmdcpooogaolaaDoor.G Go.Proofs.YtlmdcpooogaolaaDoor.Dec Go.Proofs.YtlmdcpooogaolaaDoor.Pure Go.Proofs.YtlmdcpooogaolaaDoorW.PrintWords Go.Proofs.YtlmdcpooogaolaaDoorW.PrintLast
set_option linter.unusedVariables false
theorem ev_congr {α : Type} {g f : Nat → Option α} {r : α} (h : ∀ k, g k = f k) (k : Ev f r) : Ev g r := by
  have : g = f := funext h
  rw [this]; exact k
/-! ### Show -/
theorem runText_len (r : S32) (h : Pure.Good r) : (runText r).length ≤ 22 := by
  obtain ⟨h1, h2, h3⟩ := h
  have a := digs_len10 r.f0.toNat (by omega)
  have b := digs_len10 r.f1.toNat (by omega)
  unfold runText
  split <;> simp <;> omega
def showL (n : List S32) : List Int := if n = [] then [110, 111, 110, 101] else txt n
end Go.Proofs.YtlmdcpooogaolaaDoor.Txt

/- The reference's Read: loose pieces, and the text held against what Show writes. -/
namespace Go.Proofs.YtlmdcpooogaolaaDoor.Txt
open Go.RowKit Go.Proofs.YtlmdcpooogaolaaDoor.G Go.Proofs.YtlmdcpooogaolaaDoor.Dec Go.Proofs.YtlmdcpooogaolaaDoor.Pure Go.Proofs.YtlmdcpooogaolaaDoorW.PrintWords Go.Proofs.YtlmdcpooogaolaaDoorW.PrintLast
set_option linter.unusedVariables false
end Go.Proofs.YtlmdcpooogaolaaDoor.Txt
