/- script.field: the place of the field that a letter names. -/
import Derived.Test.YtlmdhpfggobogaaDoorGx0
namespace Go.Proofs.YtlmdhpfggobogaaDoor.G
open Go.RowKit Go.Proofs.YtlmdhpfggobogaaDoorW.PrintWords Go.Proofs.YtlmdhpfggobogaaDoorW.PrintLast Go.Proofs.YtlmdhpfggobogaaDoorW.PrintMore
set_option linter.unusedVariables false
def fldOff (c : Int) : Nat := if c = 114 then 1 else if c = 99 then 2 else if c = 116 then 3 else if c = 113 then 5 else if c = 110 then 6 else 0
def fldV (a0 a1 a2 a3 a5 a6 : Int) (c : Int) : Int := if c = 114 then a1 else if c = 99 then a2 else if c = 116 then a3 else if c = 113 then a5 else if c = 110 then a6 else a0
set_option maxHeartbeats 1000000 in
set_option maxRecDepth 100000 in
theorem script_field.calls (b : Nat) (c : Int) (w : World) (hc : c = 114 ∨ c = 99 ∨ c = 116 ∨ c = 113 ∨ c = 110 ∨ c = 107) :
    Calls Tryd.prog 43 #[.pointer (some ⟨b, 0, none⟩), .int .i32 c] w fun e w' => e = .returned (.pointer (some ⟨b, fldOff c, none⟩)) ∧ w' = w := by
  rcases hc with rfl | rfl | rfl | rfl | rfl | rfl
  all_goals (go_enter Tryd.func43, Tryd.ntmps43; go_wp2; go_ret; exact ⟨rfl, rfl⟩)
end Go.Proofs.YtlmdhpfggobogaaDoor.G
