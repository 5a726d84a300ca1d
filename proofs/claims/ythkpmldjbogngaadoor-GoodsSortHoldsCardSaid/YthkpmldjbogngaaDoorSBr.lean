/- Between what a row's reading tells of a list of texts and what the walk asks. -/
import Derived.Test.YthkpmldjbogngaaDoorSx0
import Derived.Test.YthkpmldjbogngaaDoorRows
import Derived.SliceStrings
import Derived.ChangeSame
import Derived.SizedLaws
import Derived.WalkKit
import Derived.ProofKit
import Derived.OpenShut
namespace Go.Proofs.YthkpmldjbogngaaDoor.SB
open Go.ChangeShapes Go.WideShapes Go.ChangeAt Go.RowKit
open Go.Proofs.YthkpmldjbogngaaDoorW.PrintWords
/-- What a reading's datum holds of a list of texts. -/
def DatS {H : Type} (d : DataW H) (l : List ByteArray) : Prop := (l = [] ∧ d = .nil) ∨ ∃ spare, d = .slice (strs l) spare
theorem open_texts {H : Type} {enc : TypeId × Value → H} {W : World} {d : DataW H} {p : List MemPlace} {a : Option Addr} {len cap : Nat}
    (h : DataW.Trod enc Tryd.prog W 0 (fun _ => true) true 22 (.slice a len cap) d p) :
    ∃ l : List ByteArray, l.length = len ∧ l.length ≤ cap ∧ Kd.C Kd.string W a l.length l ∧ DatS d l := by
  obtain ⟨fuel, hf⟩ := h
  rcases open_strings Tryd.underlying22 Tryd.underlying9 (by kernel_rfl) hf with ⟨hcs, hx⟩ | ⟨x, l, c, ss, hcs, _, hl, hm, hz, hx, hcell, hsz⟩
  · simp only [Value.cells, List.cons.injEq, Value.slice.injEq, and_true] at hcs
    obtain ⟨rfl, rfl, rfl⟩ := hcs
    simp only [Prod.mk.injEq] at hx
    exact ⟨[], rfl, Nat.le_refl _, ⟨rfl, Nat.zero_le _, fun h => absurd h (by simp)⟩, .inl ⟨rfl, hx.1⟩⟩
  · simp only [Value.cells, List.cons.injEq, Value.slice.injEq, and_true] at hcs
    obtain ⟨rfl, rfl, rfl⟩ := hcs
    have hz' : ss.length = cap := by simpa using hz
    have hlen : (ss.take len).length = len := by rw [List.length_take]; omega
    simp only [Prod.mk.injEq] at hx
    have hmx : maxLen = 9223372036854775807 := rfl
    refine ⟨ss.take len, hlen, by rw [hlen]; exact hl, ⟨rfl, by rw [hlen]; omega, fun _ => ⟨x, rfl, fun j q hj => ?_⟩⟩, .inr ⟨_, hx.1⟩⟩
    have hjl : j < len := by have := (List.getElem?_eq_some_iff.1 hj).1; omega
    rw [List.getElem?_take_of_lt hjl] at hj
    refine ⟨[.string q], rfl, rfl, fun i u hu => ?_⟩
    match i with
    | 0 =>
      simp only [List.getElem?_cons_zero, Option.some.injEq] at hu
      subst hu
      have := hcell j (by omega)
      rw [List.getD_eq_getElem?_getD, hj] at this
      rw [show j * Kd.string.sz + 0 = j from Nat.mul_one j]
      exact this
    | n + 1 => simp at hu
theorem all_weight {H : Type} {P : Program} {e : TypeId} {elems : List (DataW H)} {d : DataW H} {v : Nat} (hd : d ∈ elems) (hv : v ∈ DataW.weights P e d) : v ∈ DataW.weightsAll P e elems := by
  induction elems with
  | nil => cases hd
  | cons x t ih =>
    unfold DataW.weightsAll
    rcases List.mem_cons.1 hd with h | h
    · subst h; exact List.mem_append_left _ hv
    · exact List.mem_append_right _ (ih h)
theorem texts_ok {H : Type} {d : DataW H} {l : List ByteArray} {ts : List TypeId} {ds : List (DataW H)} (hD : DatS d l) (hsz : (DataW.weightsEach Tryd.prog ts ds).all (· ≤ reachBytes) = true)
    {j : Nat} (hj : ts[j]? = some 22) (hd : ds[j]? = some d) : ∀ x ∈ l, x.size ≤ 140737488351232 := by
  rcases hD with ⟨rfl, _⟩ | ⟨spare, rfl⟩
  · simp
  · intro x hx
    have z := List.all_eq_true.1 hsz x.data.toList.length (DataW.weights_mem_each hj hd _ (by
      simp only [DataW.weights, Tryd.underlying22]
      exact List.mem_cons_of_mem _ (List.mem_append_left _ (all_weight (List.mem_map.2 ⟨x, hx, rfl⟩) (by simp [DataW.weights])))))
    have := of_decide_eq_true z
    rw [Array.length_toList] at this
    exact this
theorem texts_len {H : Type} {d : DataW H} {l : List ByteArray} {ts : List TypeId} {ds : List (DataW H)} (hD : DatS d l) (hsz : (DataW.weightsEach Tryd.prog ts ds).all (· ≤ reachBytes) = true)
    {j : Nat} (hj : ts[j]? = some 22) (hd : ds[j]? = some d) : l.length ≤ 8796093021952 := by
  rcases hD with ⟨rfl, _⟩ | ⟨spare, rfl⟩
  · simp
  · have z := sized_slice hsz hj hd Tryd.underlying22
    have hb : Tryd.prog.bytesOf 9 = 16 := by kernel_rfl
    have hr : reachBytes = 140737488351232 := by kernel_rfl
    rw [hb, hr] at z
    simp only [strs, List.length_map] at z
    omega
end Go.Proofs.YthkpmldjbogngaaDoor.SB
