import Derived.Test.YtlmdhpfggobogaaDoorQSk5
import Derived.Great.BuildSlice
import Derived.Deep.WholeRow
import Derived.Test.YtlmdhpfggobogaaDoorQSk6
namespace Go.Proofs.YtlmdhpfggobogaaDoor.G
open Go.RowKit Go.Proofs.YtlmdhpfggobogaaDoorW.PrintWords Go.Proofs.YtlmdhpfggobogaaDoorW.PrintLast Go.Proofs.YtlmdhpfggobogaaDoorW.PrintMore
set_option linter.unusedVariables false
theorem kind_cases (k : Int) : k = 1 ∨ k = 2 ∨ k = 3 ∨ k = 4 ∨ k = 5 ∨ k = 6 ∨ k = 7 ∨ k = 8 ∨ k = 9 ∨ k = 10 ∨ k = 11 ∨ k = 12 ∨ k = 13 ∨ k = 14 ∨ k = 15 ∨ k = 16 ∨ k < 1 ∨ 16 < k := by omega
def barrowref24_word.f (a0 : Int) : Option ByteArray := if a0 = 1 then some (⟨#[115, 101, 116]⟩ : ByteArray) else (if a0 = 2 then some (⟨#[97, 100, 100]⟩ : ByteArray) else (if a0 = 3 then some (⟨#[114, 101, 109, 111, 118, 101]⟩ : ByteArray) else (if a0 = 4 then some (⟨#[114, 101, 109, 111, 118, 101, 116, 111]⟩ : ByteArray) else (if a0 = 5 then some (⟨#[99, 108, 101, 97, 114]⟩ : ByteArray) else (if a0 = 6 then some (⟨#[99, 108, 101, 97, 114, 116, 111]⟩ : ByteArray) else (if a0 = 7 then some (⟨#[114, 101, 97, 100]⟩ : ByteArray) else (if a0 = 8 then some (⟨#[115, 121, 110, 99]⟩ : ByteArray) else (if a0 = 9 then some (⟨#[102, 117, 108, 108]⟩ : ByteArray) else (if a0 = 10 then some (⟨#[97, 115, 107]⟩ : ByteArray) else (if a0 = 11 then some (⟨#[100, 101, 108, 105, 118, 101, 114]⟩ : ByteArray) else (if a0 = 12 then some (⟨#[99, 111, 112, 121]⟩ : ByteArray) else (if a0 = 13 then some (⟨#[100, 114, 111, 112]⟩ : ByteArray) else (if a0 = 14 then some (⟨#[116, 114, 105, 109]⟩ : ByteArray) else (if a0 = 15 then some (⟨#[114, 101, 115, 116, 97, 114, 116]⟩ : ByteArray) else (if a0 = 16 then some (⟨#[112, 117, 115, 104]⟩ : ByteArray) else (some (⟨#[111, 112]⟩ : ByteArray)))))))))))))))))
def barrowref24_shape.f (a0 : Int) : Option ByteArray := if a0 = 1 then some (⟨#[82, 67, 83, 81]⟩ : ByteArray) else (if a0 = 2 then some (⟨#[82, 67, 83, 81]⟩ : ByteArray) else (if a0 = 3 then some (⟨#[82, 67, 83]⟩ : ByteArray) else (if a0 = 4 then some (⟨#[82, 83, 78]⟩ : ByteArray) else (if a0 = 5 then some (⟨#[82, 67]⟩ : ByteArray) else (if a0 = 6 then some (⟨#[82, 78]⟩ : ByteArray) else (if a0 = 7 then some (⟨#[82, 67]⟩ : ByteArray) else (if a0 = 8 then some (⟨#[82, 84]⟩ : ByteArray) else (if a0 = 9 then some (⟨#[82, 84]⟩ : ByteArray) else (if a0 = 10 then some (⟨#[82, 84]⟩ : ByteArray) else (if a0 = 11 then some (⟨#[78]⟩ : ByteArray) else (if a0 = 12 then some (⟨#[78]⟩ : ByteArray) else (if a0 = 13 then some (⟨#[78]⟩ : ByteArray) else (if a0 = 14 then some (⟨#[78, 81]⟩ : ByteArray) else (if a0 = 15 then some (⟨#[82]⟩ : ByteArray) else (if a0 = 16 then some (⟨#[82, 84, 78]⟩ : ByteArray) else (some (⟨#[75]⟩ : ByteArray)))))))))))))))))
end Go.Proofs.YtlmdhpfggobogaaDoor.G

namespace Go.Proofs.YtlmdhpfggobogaaDoor.G
open Go.RowKit Go.Proofs.YtlmdhpfggobogaaDoorW.PrintWords Go.Proofs.YtlmdhpfggobogaaDoorW.PrintLast Go.Proofs.YtlmdhpfggobogaaDoorW.PrintMore
attribute [local go_sem] max2_int min2_int max_two min_two max_three min_three max_four min_four   -- for this text's walks alone
set_option linter.unusedVariables false
set_option linter.unusedSimpArgs false
end Go.Proofs.YtlmdhpfggobogaaDoor.G

namespace Go.Proofs.YtlmdhpfggobogaaDoor.G
open Go.RowKit Go.Proofs.YtlmdhpfggobogaaDoorW.PrintWords Go.Proofs.YtlmdhpfggobogaaDoorW.PrintLast Go.Proofs.YtlmdhpfggobogaaDoorW.PrintMore
attribute [local go_sem] max2_int min2_int max_two min_two max_three min_three max_four min_four   -- for this text's walks alone
set_option linter.unusedVariables false
set_option linter.unusedSimpArgs false
end Go.Proofs.YtlmdhpfggobogaaDoor.G

namespace Go.Proofs.YtlmdhpfggobogaaDoor.G
open Go.RowKit Go.Proofs.YtlmdhpfggobogaaDoorW.PrintWords Go.Proofs.YtlmdhpfggobogaaDoorW.PrintLast Go.Proofs.YtlmdhpfggobogaaDoorW.PrintMore
attribute [local go_sem] max2_int min2_int max_two min_two max_three min_three max_four min_four   -- for this text's walks alone
set_option linter.unusedVariables false
set_option linter.unusedSimpArgs false
end Go.Proofs.YtlmdhpfggobogaaDoor.G
