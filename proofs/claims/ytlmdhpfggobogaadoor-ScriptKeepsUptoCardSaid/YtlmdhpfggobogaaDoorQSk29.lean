import Derived.Test.YtlmdhpfggobogaaDoorQSk20
import Derived.Test.YtlmdhpfggobogaaDoorRows
import Derived.LaidMore
import Derived.LaidSub
import Derived.Lib.LaidTab
namespace Go.Proofs.YtlmdhpfggobogaaDoor.Br
open Go.RowKit
set_option linter.unusedVariables false
theorem iface_cells {H : Type} {enc : TypeId × Value → H} {P : Program} {w : World} {base : Nat} {sp : Nat → Bool} {held : Bool} {fuel : Nat} {t : TypeId} {cs : List Value} {x : DataW H × List MemPlace} {ms : Array (String × TypeId)}
    (ht : P.underlying t = some (.interface ms)) (h : DataW.trod enc P w base sp held fuel t cs = some x) : cs = [.nilIface] ∨ ∃ u v, cs = [.iface u v] := by
  cases fuel with
  | zero => simp [DataW.trod] at h
  | succ n =>
    unfold DataW.trod at h
    rw [ht] at h
    split at h <;> first | exact Or.inl rfl | exact Or.inr ⟨_, _, rfl⟩ | (exfalso; simp_all; done) | (simp at h; done)
theorem errAt {W : World} {name : String} {g : Nat} {d : DataW Unit} {rest : List (String × DataW Unit)} (hg : Tryd.prog.globalNamed name = some g) (hty : (Tryd.prog.globals[g]?).map (·.type) = some 55)
    (h : laidMet Tryd.prog ((name, d) :: rest) W) : ∃ ev, W.cell? ⟨g, 0, none⟩ = some ev ∧ (ev = .nilIface ∨ ∃ te pe, ev = .iface te pe) := by
  obtain ⟨ps, ⟨g', t', cs, fuel, p, q, hg', ht', hvar, hd, _, _⟩, _⟩ := h
  obtain rfl := Option.some.inj (hg.symm.trans hg')
  obtain rfl := Option.some.inj (hty.symm.trans ht')
  have hc := World.var?_cell hg hvar 0
  obtain ⟨l⟩ := cs
  rcases iface_cells Tryd.underlying55 hd with e | ⟨u, v, e⟩
  · have e' : l = [.nilIface] := e
    subst e'
    exact ⟨_, hc, .inl rfl⟩
  · have e' : l = [.iface u v] := e
    subst e'
    exact ⟨_, hc, .inr ⟨_, _, rfl⟩⟩
end Go.Proofs.YtlmdhpfggobogaaDoor.Br
