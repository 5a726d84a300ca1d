/- ScriptPrints: both sides write the same text. -/
import Derived.Test.YtlmdhpfggobogaaDoorGx3
import Derived.Test.YtlmdhpfggobogaaDoorRPr
namespace Go.Proofs.YtlmdhpfggobogaaDoor.Pure
open Go.RowKit Go.Proofs.YtlmdhpfggobogaaDoor.G Go.Proofs.YtlmdhpfggobogaaDoorW.PrintWords Go.Proofs.YtlmdhpfggobogaaDoorW.PrintLast
open Go.Proofs.YtlmdhpfggobogaaDoor.Dec (digs)
set_option linter.unusedVariables false
theorem digs_one (n : Nat) (h : n < 10) : digs n = [48 + ((n : Nat) : Int)] := by
  rw [digs_step, if_pos (by omega), List.nil_append, Nat.mod_eq_of_lt h]
theorem numI_one (n : Nat) (h : n < 10) : numI (n : Int) = [48 + ((n : Nat) : Int)] := by
  unfold numI
  rw [if_neg (by omega), Int.natAbs_natCast, digs_one n h]
theorem n0 : numI 0 = [48] := numI_one 0 (by decide)
theorem n1 : numI 1 = [49] := numI_one 1 (by decide)
theorem n2 : numI 2 = [50] := numI_one 2 (by decide)
theorem line15 : lineI 15 1 0 0 ⟨#[]⟩ 0 0 = [114, 101, 115, 116, 97, 114, 116, 32, 49] := by
  show [114, 101, 115, 116, 97, 114, 116] ++ ([114].flatMap (pieceI 15 1 0 0 ⟨#[]⟩ 0 0)) = _
  have e : pieceI 15 1 0 0 ⟨#[]⟩ 0 0 114 = [32, 49] := by
    unfold pieceI
    rw [if_neg (by decide)]
    show 32 :: numI 1 = _
    rw [n1]
  simp [e]
theorem ex_print : printI 2 0 0 0 0 0 [⟨15, 1, 0, 0, ⟨#[]⟩, 0, 0⟩] = [115, 116, 111, 114, 101, 32, 50, 32, 48, 32, 48, 32, 48, 32, 48, 32, 48, 10, 114, 101, 115, 116, 97, 114, 116, 32, 49, 10] := by
  simp [printI, numsI, headNums, storeI, opI, n0, n2, line15]
theorem ex_f : script_Print.f 2 0 0 0 0 0 [⟨15, 1, 0, 0, ⟨#[]⟩, 0, 0⟩] = some (strOfNums [115, 116, 111, 114, 101, 32, 50, 32, 48, 32, 48, 32, 48, 32, 48, 32, 48, 10, 114, 101, 115, 116, 97, 114, 116, 32, 49, 10]) := by
  unfold script_Print.f
  rw [if_pos (by decide), ex_print]
theorem ScriptPrints (a0 a1 a2 a3 a4 a5 : Int) (l : List S29) (h : okP a0 a1 a2 a3 a4 a5 l) : barrowlaw24_ScriptPrints.f a0 a1 a2 a3 a4 a5 l = some true := by
  unfold barrowlaw24_ScriptPrints.f
  rw [ex_f, Option.bind_some, if_pos (by decide +kernel)]
  unfold script_Print.f barrowref24_Print.f
  rw [if_pos h, Option.bind_some, Option.bind_some]
  simp
end Go.Proofs.YtlmdhpfggobogaaDoor.Pure
