/- strings.IndexByte of the program's text answers the first place of a byte, for every string and byte. -/
import Derived.Test.YtmicghhmbojkfaaGreatDoorGx0
import Derived.Test.YtmicghhmbojkfaaGreatDoorShelf
namespace Go.Proofs.YtmicghhmbojkfaaGreatDoor.G
open Go.RowKit Go.Proofs.YtmicghhmbojkfaaGreatDoorW.PrintWords Go.Proofs.YtmicghhmbojkfaaGreatDoorW.PrintLast
def strings_IndexByte.f (a0 : ByteArray) (a1 : Int) : Option Int := some (Lib.indexByte a0.data.toList a1.toNat.toUInt8)
theorem strings_IndexByte.calls (a0 : ByteArray) (a1 : Int) (r : Int) (w : World) (h : strings_IndexByte.f a0 a1 = some r) :
    Calls Tryz.prog 22 #[.string a0, .int .u8 a1] w fun e w' => e = .returned (.int .i64 r) ∧ Drawn0 w w' := by
  unfold strings_IndexByte.f at h
  simp only [Option.some.injEq] at h
  subst h
  exact (Tryz.strings_IndexByte a0 a1 w).mono fun e w' ⟨he, hw⟩ => ⟨he, hw ▸ Drawn0.refl _⟩
end Go.Proofs.YtmicghhmbojkfaaGreatDoor.G
