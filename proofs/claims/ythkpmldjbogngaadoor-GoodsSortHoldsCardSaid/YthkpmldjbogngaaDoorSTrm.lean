/- strings.TrimLeft of the program's text at the cutset "0": the text without its 0s in front. -/
import Derived.Test.YthkpmldjbogngaaDoorSx0
import Derived.Test.YthkpmldjbogngaaDoorShelfP
namespace Go.Proofs.YthkpmldjbogngaaDoor.S
open Go.RowKit Go.Proofs.YthkpmldjbogngaaDoorW.PrintWords Go.Proofs.YthkpmldjbogngaaDoorW.PrintLast Go.Proofs.YthkpmldjbogngaaDoorW.PrintMore
def strings_TrimLeft.f (a0 : ByteArray) (a1 : ByteArray) : Option ByteArray := if a1 = ⟨#[48]⟩ then some ⟨(Lib.trimLeftB a0.data.toList 48).toArray⟩ else none
theorem strings_TrimLeft.calls (a0 : ByteArray) (a1 : ByteArray) (r : ByteArray) (w : World) (h : strings_TrimLeft.f a0 a1 = some r) :
    Calls Tryd.prog 20 #[.string a0, .string a1] w fun e w' => e = .returned (.string r) ∧ Drawn0 w w' := by
  unfold strings_TrimLeft.f at h
  split at h
  · rename_i hc
    subst hc
    injection h with h
    subst h
    exact (Tryd.strings_TrimLeft_one a0 48 (by decide) w).mono fun e w' ⟨he, hw⟩ => ⟨he, hw ▸ Drawn0.refl _⟩
  · cases h
end Go.Proofs.YthkpmldjbogngaaDoor.S
