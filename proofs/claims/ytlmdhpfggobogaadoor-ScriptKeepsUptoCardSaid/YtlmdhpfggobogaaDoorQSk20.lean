import Derived.Test.YtlmdhpfggobogaaDoorQSk10
import Derived.Test.YtlmdhpfggobogaaDoorQSk12
import Derived.Test.YtlmdhpfggobogaaDoorQSk13
namespace Go.Proofs.YtlmdhpfggobogaaDoor.G
open Go.RowKit Go.Proofs.YtlmdhpfggobogaaDoorW.PrintWords Go.Proofs.YtlmdhpfggobogaaDoorW.PrintLast Go.Proofs.YtlmdhpfggobogaaDoorW.PrintMore
set_option linter.unusedVariables false
def TabE (w : World) : Prop := (∃ ev, w.cell? ⟨2, 0, none⟩ = some ev ∧ (ev = .nilIface ∨ ∃ te pe, ev = .iface te pe)) ∧ (∃ ev, w.cell? ⟨3, 0, none⟩ = some ev ∧ (ev = .nilIface ∨ ∃ te pe, ev = .iface te pe))
theorem tabE_keep {w w' : World} (h : Aside0 (TabE w)) (hb : Below w.heap.size w w') : Aside0 (TabE w') := by
  have key : ∀ k ev, w.cell? ⟨k, 0, none⟩ = some ev → w'.cell? ⟨k, 0, none⟩ = some ev := by
    intro k ev hc
    have hlt : k < w.heap.size := World.block_lt_of_cell? w ⟨k, 0, none⟩ hc
    rw [World.cell?_of_block (hb.block k hlt)]
    exact hc
  obtain ⟨⟨e1, h1, k1⟩, e2, h2, k2⟩ := h.out
  exact ⟨⟨e1, key _ _ h1, k1⟩, e2, key _ _ h2, k2⟩
theorem grow_below {w w1 : World} (h : Below w.heap.size w w1) (k : Nat) (os : Array Obj) : Below w.heap.size w (Go.Sort.grow (w1.drewN k) os) :=
  below_step h ⟨rfl, rfl, rfl, by show w1.heap.size ≤ (w1.heap ++ os).size; rw [Array.size_append]; omega, fun j hj => by show (w1.heap ++ os)[j]? = w1.heap[j]?; rw [Array.getElem?_append_left hj]⟩
def rdNum (s : ByteArray) : Int × Bool := match Lib.parseIntB 64 s.data.toList with
  | .ok v => (v, (itoaB v).toList == s.toList)
  | Lib.NumEnd.syntax => (0, false)
  | .range => (Lib.intSat 64 s.data.toList, false)
def script_readNumber.f (a0 : ByteArray) : Option (Int × Bool) := if a0.size ≤ 281474976710656 then some (rdNum a0) else none
set_option maxHeartbeats 1000000 in
set_option maxRecDepth 100000 in
theorem script_readNumber.calls (a0 : ByteArray) (r1 : Int) (r2 : Bool) (w : World) (hTab : Aside0 (Tab w)) (hTabE : Aside0 (TabE w)) (h : script_readNumber.f a0 = some (r1, r2)) :
    Calls Tryd.prog 58 #[.string a0] w fun e w' => e = .returned (.tuple #[.int .i64 r1, .bool r2]) ∧ Below w.heap.size w w' := by
  unfold script_readNumber.f at h
  by_cases hs : a0.size ≤ 281474976710656
  case neg => rw [if_neg hs] at h; cases h
  rw [if_pos hs] at h
  have hr := Option.some.inj h
  clear h
  unfold rdNum at hr
  cases hp : Lib.parseIntB 64 a0.data.toList with
  | ok v =>
    rw [hp] at hr
    simp only [Prod.mk.injEq] at hr
    obtain ⟨rfl, rfl⟩ := hr
    have hb := Lib.parseIntB_bounds hp
    have hb1 : -9223372036854775808 ≤ v ∧ v ≤ 9223372036854775807 := by
      have h1 : ((2 ^ (64 - 1) : Nat) : Int) = 9223372036854775808 := by decide
      rw [h1] at hb; omega
    have HP := Aside0.mk hp
    have HB1 := Aside0.mk hb1
    have hmax : a0.size ≤ 9223372036854775806 := by omega
    have HMX := Aside0.mk hmax
    clear hp hb hb1 hs hmax
    obtain ⟨U, hU⟩ : ∃ U, itoaB v = U := ⟨_, rfl⟩
    have HU := Aside0.mk hU
    rw [hU]
    clear hU
    go_enter Tryd.func58, Tryd.ntmps58
    go_wp2_with (first | (go_at_call 72; refine (Tryd.strconv_ParseInt_10_at64_ok a0 HMX.out v HP.out _).mono ?_; rintro e w1 ⟨rfl, hw1⟩; have n1 := Aside0.mk (show Below w.heap.size w w1 from hw1.elim (fun e1 => e1 ▸ Below.refl _ _) (fun ⟨t, e1⟩ => e1 ▸ Go.Joins.below_bytesWorld _ w 5 t (Nat.le_refl _))); clear hw1) | (go_at_call 73; refine (Tryd.strconv_FormatInt_10 v HB1.out.1 HB1.out.2 _ (tab_keep hTab n1.out).out).mono ?_; rintro e w2 ⟨rfl, kk, os, hw2⟩; have n2 := Aside0.mk (show Below w.heap.size w w2 from hw2 ▸ grow_below n1.out kk os); have e2 : (⟨(Lib.itoa v).toArray⟩ : ByteArray) = U := HU.out; rw [e2]; clear hw2 e2) | go_in)
    go_ret2
    exact ⟨rfl, n2.out⟩
  | range =>
    rw [hp] at hr
    simp only [Prod.mk.injEq] at hr
    obtain ⟨rfl, rfl⟩ := hr
    obtain ⟨_, ev, hev, kev⟩ := hTabE.out
    have HP := Aside0.mk hp
    have HE := Aside0.mk hev
    have HK := Aside0.mk kev
    have HSz := Aside0.mk hs
    clear hp hev kev hs
    obtain ⟨V, hV⟩ : ∃ V, Lib.intSat 64 a0.data.toList = V := ⟨_, rfl⟩
    have HV := Aside0.mk hV
    rw [hV]
    go_enter Tryd.func58, Tryd.ntmps58
    go_wp2_with (first | (go_at_call 72; refine (Tryd.strconv_ParseInt_10_at64_range a0 HSz.out HP.out ev _ HE.out HK.out).mono ?_; rintro e w1 ⟨NN, rfl, _, _, hw1⟩; have n1 := Aside0.mk hw1; rw [HV.out]; clear hw1) | go_in)
    go_ret2
    exact ⟨rfl, n1.out⟩
  | _ =>
    rw [hp] at hr
    simp only [Prod.mk.injEq] at hr
    obtain ⟨rfl, rfl⟩ := hr
    obtain ⟨⟨ev, hev, kev⟩, _⟩ := hTabE.out
    have HP := Aside0.mk hp
    have HE := Aside0.mk hev
    have HK := Aside0.mk kev
    have HSz := Aside0.mk hs
    clear hp hev kev hs
    go_enter Tryd.func58, Tryd.ntmps58
    go_wp2_with (first | (go_at_call 72; refine (Tryd.strconv_ParseInt_10_at64_syntax a0 HSz.out HP.out ev _ HE.out HK.out).mono ?_; rintro e w1 ⟨NN, rfl, _, _, hw1⟩; have n1 := Aside0.mk hw1; clear hw1) | go_in)
    go_ret2
    exact ⟨rfl, n1.out⟩
end Go.Proofs.YtlmdhpfggobogaaDoor.G
