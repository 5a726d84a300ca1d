import Derived.Test.YtlmdhpfggobogaaDoorQSk20
import Derived.Test.YtlmdhpfggobogaaDoorQSk21
import Derived.Test.YtlmdhpfggobogaaDoorQSk15
import Derived.Lib.SplitLaws
import Derived.Lib.IndexBytes
namespace Go.Proofs.YtlmdhpfggobogaaDoor.G
open Go.RowKit Go.Proofs.YtlmdhpfggobogaaDoorW.PrintWords Go.Proofs.YtlmdhpfggobogaaDoorW.PrintLast
set_option linter.unusedVariables false
def TabM (w : World) : Prop := ∃ m, w.cell? ⟨0, 0, none⟩ = some (.int .i64 m) ∧ 0 < w.heap.size
theorem tabM_keep {w w' : World} (h : Aside0 (TabM w)) (hb : Below w.heap.size w w') : Aside0 (TabM w') := by
  obtain ⟨m, hm, h0⟩ := h.out
  exact ⟨⟨m, (hb.cell (p := ⟨0, 0, none⟩) h0).trans hm, Nat.lt_of_lt_of_le h0 hb.size⟩⟩
def strings_Split.f (a0 a1 : ByteArray) : Option (List ByteArray) := if a0.size < 4294967281 ∧ 1 ≤ a1.size then some (Lib.splitB a1 0 (Lib.countB a0 a1) a0) else none
theorem strings_Split.calls (a0 a1 : ByteArray) (r : List ByteArray) (w : World) (hTabM : Aside0 (TabM w)) (h : strings_Split.f a0 a1 = some r) :
    Calls Tryd.prog 47 #[.string a0, .string a1] w fun e w' => ∃ v, e = .returned v ∧ Kd.R Kd.string 9 w' w.heap.size (fun _ => True) v r ∧ Below w.heap.size w w' := by
  unfold strings_Split.f at h
  by_cases hs : a0.size < 4294967281 ∧ 1 ≤ a1.size
  case neg => rw [if_neg hs] at h; cases h
  rw [if_pos hs, Option.some.injEq] at h
  obtain ⟨m, hm, _⟩ := hTabM.out
  have hlen := Lib.splitB_all a1 hs.2 0 _ a0 rfl
  have hle := Lib.countB_le a1 hs.2 _ a0 (Nat.le_refl _)
  rw [h] at hlen
  refine (Tryd.strings_Split a0 a1 m w hs.1 hm hs.2).mono ?_
  rintro e w' ⟨rfl, rfl⟩
  refine ⟨_, rfl, ?_, below_alloc (Below.refl _ w) _⟩
  rw [h]
  refine Kd.R_of_own ?_ (fun _ _ => trivial)
  refine ⟨by simp [encs], .inr ⟨w.heap.size, Lib.countB a0 a1 + 1, _, by rw [hlen], Nat.le_refl _, heap_alloc_last w _, by omega, ?_, ?_, ?_⟩⟩
  · show _ ≤ (_ : Nat)
    unfold maxLen
    omega
  · simp [hlen]
  · simp [encs, hlen]
    exact List.take_of_length_le (by simp [hlen])
def linesA : List Int → List Int → List (List Int)
  | cur, [] => [cur]
  | cur, c :: t => if c = 10 then cur :: linesA [] t else linesA (cur ++ [c]) t
theorem lines_idx : ∀ (l : List UInt8) (cur : List Int), linesA cur (byI l) = if Lib.indexByte l 10 < 0 then [cur ++ byI l] else (cur ++ (byI l).take (Lib.indexByte l 10).toNat) :: linesA [] ((byI l).drop ((Lib.indexByte l 10).toNat + 1))
  | [], cur => by simp [byI, linesA, Lib.indexByte]
  | b :: l, cur => by
    have ih := lines_idx l
    have e : byI (b :: l) = (b.toNat : Int) :: byI l := rfl
    rw [e]
    have hge := Lib.indexByte_ge l 10
    by_cases hb : b = 10
    · subst hb
      have e1 : Lib.indexByte (10 :: l) 10 = 0 := rfl
      rw [e1, if_neg (by decide)]
      show linesA cur (10 :: byI l) = _
      simp [linesA]
    · have hne : ¬ ((b.toNat : Int) = 10) := by
        intro h
        apply hb
        apply UInt8.toNat_inj.1
        have : (10 : UInt8).toNat = 10 := rfl
        omega
      have e1 : Lib.indexByte (b :: l) 10 = if Lib.indexByte l 10 = -1 then -1 else Lib.indexByte l 10 + 1 := by
        have hbe : (b == 10) = false := by simpa using hb
        conv => lhs; unfold Lib.indexByte
        rw [hbe]
        simp
      have e2 : linesA cur ((b.toNat : Int) :: byI l) = linesA (cur ++ [(b.toNat : Int)]) (byI l) := by
        conv => lhs; unfold linesA
        rw [if_neg hne]
      rw [e1, e2, ih]
      by_cases h : Lib.indexByte l 10 = -1
      · rw [if_pos h, if_pos (by omega), if_pos (by decide)]; simp
      · rw [if_neg h, if_neg (by omega), if_neg (by omega)]
        have e3 : (Lib.indexByte l 10 + 1).toNat = (Lib.indexByte l 10).toNat + 1 := by omega
        rw [e3, List.drop_succ_cons, List.take_succ_cons]
        simp
def nl : ByteArray := ⟨#[10]⟩
theorem split_lines : ∀ (n : Nat) (s : ByteArray), s.size ≤ n → (Lib.splitB nl 0 (Lib.countB s nl) s).map bytesOf = linesA [] (bytesOf s) := by
  intro n
  induction n with
  | zero =>
    intro s hs
    have e : bytesOf s = [] := List.eq_nil_of_length_eq_zero (by rw [bytesOf_length]; omega)
    have hd : s.data.toList = [] := List.eq_nil_of_length_eq_zero (by rw [data_length]; omega)
    have hi : Lib.indexB s nl = -1 := by
      show Lib.index s.data.toList [10] = -1
      rw [Lib.index_one, hd]; rfl
    rw [Lib.splitB_miss nl 0 _ s hi, e]
    simp [linesA, e]
  | succ n ih =>
    intro s hs
    have hix : Lib.indexB s nl = Lib.indexByte s.data.toList 10 := Lib.index_one s.data.toList 10
    have hl := lines_idx s.data.toList []
    have eb : byI s.data.toList = bytesOf s := rfl
    rw [eb] at hl
    rw [hl]
    rcases Lib.indexB_cases s nl with hm | ⟨i, hi, hle⟩
    · rw [Lib.splitB_miss nl 0 _ s hm, ← hix, hm, if_pos (by decide)]
      simp
    · have hnl : nl.size = 1 := rfl
      have hc := Lib.countB_hit s nl i (by rw [hnl]; exact Nat.le_refl _) hi
      rw [hnl] at hc hle
      rw [← hix, hi, if_neg (by omega), hc, Nat.add_comm, Lib.splitB_hit nl 0 _ s i hi, List.map_cons, hnl, Int.toNat_natCast, Nat.add_zero]
      have hsz : (s.extract (i + 1) s.size).size ≤ n := by rw [← bytesOf_length, ext_bytes, List.length_take, List.length_drop, bytesOf_length]; omega
      rw [ih _ hsz, ext_bytes, ext_bytes, List.drop_zero, Nat.sub_zero, List.nil_append, List.take_of_length_le (l := (bytesOf s).drop (i + 1)) (by rw [List.length_drop, bytesOf_length]; omega)]
end Go.Proofs.YtlmdhpfggobogaaDoor.G
