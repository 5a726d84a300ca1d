import Derived.Test.YtlmdcpooogaolaaDoorQTh7
import Derived.Test.YtlmdcpooogaolaaDoorQTh4
/- strings.Join of the program's text: the texts one behind the other, the separator between them. -/
namespace Go.Proofs.YtlmdcpooogaolaaDoor.G
open Go.RowKit Go.Proofs.YtlmdcpooogaolaaDoorW.PrintWords Go.Proofs.YtlmdcpooogaolaaDoorW.PrintLast Go.Proofs.YtlmdcpooogaolaaDoorW.PrintMore
def strings_Join.f (l0 : List ByteArray) (a1 : ByteArray) : Option ByteArray :=
  if l0.length ≤ 140737488355328 ∧ (Lib.join (l0.map (·.data.toList)) a1.data.toList).length ≤ 140737488355328 then some ⟨(Lib.join (l0.map (·.data.toList)) a1.data.toList).toArray⟩ else none
theorem cells_of_string {w : World} {ad : Addr} {l : List ByteArray} (h : Kd.C Kd.string w (some ad) l.length l) (j : Nat) (x : ByteArray) (hx : l[j]? = some x) : w.cell? (ad.add j) = some (.string x) := by
  have hj := (List.getElem?_eq_some_iff.1 hx).1
  obtain ⟨ad', e, hc⟩ := Kd.at_string h (j : Int) (by omega) (by omega)
  cases e
  rw [Int.toNat_natCast] at hc
  rw [hc]
  unfold rdOf
  rw [Int.toNat_natCast, List.getD_eq_getElem?_getD, hx]
  rfl
theorem plain_add (b o j : Nat) : ({ block := b, off := o } : Addr).add j = ⟨b, o + j, none⟩ := by
  by_cases hj : j = 0
  · subst hj; rfl
  · simp [Addr.add, hj]
theorem strings_Join.calls (A0 : Option Addr) (c0 : Nat) (l0 : List ByteArray) (a1 : ByteArray) (r : ByteArray) (w : World) (hr0 : Kd.C Kd.string w A0 l0.length l0) (hc0 : l0.length ≤ c0) (h : strings_Join.f l0 a1 = some r) :
    Calls Tryd.prog 19 #[.slice A0 l0.length c0, .string a1] w fun e w' => e = .returned (.string r) ∧ Below w.heap.size w w' := by
  unfold strings_Join.f at h
  split at h
  · rename_i hc
    injection h with h
    subst h
    cases l0 with
    | nil =>
      refine (Any.strings_Join_none Tryd.lays156 Tryd.Builder_Extra_156 A0 c0 a1 w).mono fun e w' ⟨he, hw⟩ => ⟨he, ?_⟩
      subst hw
      exact Below.refl _ _
    | cons x t =>
      obtain ⟨ad, e, hcell⟩ := Kd.at_string hr0 0 (by omega) (by simp only [List.length_cons]; omega)
      subst e
      have hcs := cells_of_string hr0
      obtain ⟨b, o, sp⟩ := ad
      have hsp : sp = none := by
        cases sp with
        | none => rfl
        | some k =>
          exfalso
          simp only [World.cell?, Addr.add] at hcell
          split at hcell <;> simp at hcell
      subst hsp
      have hb : b < w.heap.size := by
        simp only [World.cell?, Addr.add] at hcell
        split at hcell
        · rename_i h1; exact (Array.getElem?_eq_some_iff.1 h1).1
        · cases hcell
      exact Tryd.strings_Join b o c0 (x :: t) a1 w (fun j y hy => (plain_add b o j) ▸ hcs j y hy) hb hc.1 hc0 hc.2
  · cases h
end Go.Proofs.YtlmdcpooogaolaaDoor.G
