-- PRINTED by print.py (a twelfth state) out of the translation. Not trusted: Lean checks it.
import Derived.Test.YtmicghhmbojkfaaGreatDoorGx0
import Derived.Test.YtmicghhmbojkfaaGreatDoorGx33
import Derived.Test.YtmicghhmbojkfaaGreatDoorGx35
import Derived.Test.YtmicghhmbojkfaaGreatDoorGx36
namespace Go.Proofs.YtmicghhmbojkfaaGreatDoor.G
open Go.RowKit Go.Proofs.YtmicghhmbojkfaaGreatDoorW.PrintWords Go.Proofs.YtmicghhmbojkfaaGreatDoorW.PrintLast Go.Proofs.YtmicghhmbojkfaaGreatDoorW.PrintMore
attribute [local go_sem] max2_int min2_int max_two min_two max_three min_three max_four min_four   -- for this text's walks alone
set_option linter.unusedVariables false
set_option linter.unusedSimpArgs false

/-! ### barrowlaw02_match: function 30 -/
def barrowlaw02_match.f (k : Nat) (a0 : ByteArray) (a1 : ByteArray) : Option (Bool) := (goods_Match.f k a0 a1).bind fun bt241 => ((barrowref02_Match.f k a0 a1).bind fun bt243 => ((barrowlaw02_isBool.f bt241.1 bt241.2 bt243.1 bt243.2).bind fun t245 => (some t245)))
theorem barrowlaw02_match.mono : ∀ a0 a1 k, LeO (barrowlaw02_match.f k a0 a1) (barrowlaw02_match.f (k + 1) a0 a1) := by
 intro a0 a1 k
 unfold barrowlaw02_match.f
 repeat' first
   | (with_reducible exact barrowref02_Match.mono _ _ _)
   | (with_reducible exact goods_Match.mono _ _ _)
   | (with_reducible exact LeO.refl _)
   | (with_reducible exact LeO.none _)
   | (with_reducible refine LeO.ite ?_ ?_)
   | (with_reducible refine LeO.bind ?_ (fun _ => ?_))
   | exact barrowref02_Match.mono _ _ _
   | exact goods_Match.mono _ _ _
   | exact LeO.none _
   | refine LeO.ite ?_ ?_
   | refine LeO.bind ?_ (fun _ => ?_)
set_option maxHeartbeats 8000000 in
set_option maxRecDepth 100000 in
theorem barrowlaw02_match.calls (k : Nat) (a0 : ByteArray) (a1 : ByteArray) (r : Bool) (w : World) (h : barrowlaw02_match.f k a0 a1 = some r) :
  Calls Tryz.prog 30 #[.string a0, .string a1] w fun e w' => e = .returned (.bool r) ∧ Below w.heap.size w w' := by
 have HB := Aside0.mk (Below.refl w.heap.size w)
 have H : ((goods_Match.f k a0 a1).bind fun bt241 => ((barrowref02_Match.f k a0 a1).bind fun bt243 => ((barrowlaw02_isBool.f bt241.1 bt241.2 bt243.1 bt243.2).bind fun t245 => (some t245)))) = some r := h
 clear h
 replace H := Option.bind_eq_some_iff.mp H
 obtain ⟨⟨t241, t242⟩, A30, H⟩ := H
 replace H : ((barrowref02_Match.f k a0 a1).bind fun bt243 => ((barrowlaw02_isBool.f t241 t242 bt243.1 bt243.2).bind fun t245 => (some t245))) = some r := H
 have A3 := Aside0.mk A30
 clear A30
 replace H := Option.bind_eq_some_iff.mp H
 obtain ⟨⟨t243, t244⟩, A40, H⟩ := H
 replace H : ((barrowlaw02_isBool.f t241 t242 t243 t244).bind fun t245 => (some t245)) = some r := H
 have A4 := Aside0.mk A40
 clear A40
 replace H := Option.bind_eq_some_iff.mp H
 obtain ⟨t245, A50, H⟩ := H
 replace H : (some t245) = some r := H
 have A5 := Aside0.mk A50
 clear A50
 obtain rfl := Option.some.inj H
 go_enter Tryz.func30, Tryz.ntmps30
 go_wp2_with (first | ((with_reducible refine gate_callee (f := 13) rfl ?_); refine goesL_ (some 12) rfl rfl Tryz.func13 (by kernel_rfl) rfl #[.string a0, .string a1] rfl (by (try simp only [List.map_toArray, List.map_cons, List.map_nil]); first | done | rfl | (simp only [List.length_drop, List.length_take]; rfl)) ?_; (with_reducible refine (goods_Match.calls k a0 a1 t241 t242 _ A3.out).mono ?_); rintro e w6 ⟨rfl, hb⟩; refine ⟨_, rfl, ?_⟩; have n0_ := Aside0.mk (below_step (by repeat (first | (with_reducible first | exact HB.out | apply below_alloc | apply pw_below_drewN | apply below_drew1) | exact HB.out)) hb); clear HB; have HB := n0_; clear n0_; (try clear hb); (try clear hb2); (try clear hk); (try clear hi)) | ((with_reducible refine gate_callee (f := 50) rfl ?_); refine goesL_ (some 18) rfl rfl Tryz.func50 (by kernel_rfl) rfl #[.string a0, .string a1] rfl (by (try simp only [List.map_toArray, List.map_cons, List.map_nil]); first | done | rfl | (simp only [List.length_drop, List.length_take]; rfl)) ?_; (with_reducible refine (barrowref02_Match.calls k a0 a1 t243 t244 _ A4.out).mono ?_); rintro e w7 ⟨rfl, hb⟩; refine ⟨_, rfl, ?_⟩; have n0_ := Aside0.mk (below_step (by repeat (first | (with_reducible first | exact HB.out | apply below_alloc | apply pw_below_drewN | apply below_drew1) | exact HB.out)) hb); clear HB; have HB := n0_; clear n0_; (try clear hb); (try clear hb2); (try clear hk); (try clear hi)) | ((with_reducible refine gate_callee (f := 51) rfl ?_); refine goesL_ (some 25) rfl rfl Tryz.func51 (by kernel_rfl) rfl #[.bool t241, .int .i64 t242, .bool t243, .int .i64 t244] rfl (by (try simp only [List.map_toArray, List.map_cons, List.map_nil]); first | done | rfl | (simp only [List.length_drop, List.length_take]; rfl)) ?_; (with_reducible refine (barrowlaw02_isBool.calls t241 t242 t243 t244 t245 _ A5.out).mono ?_); rintro e w' ⟨rfl, ⟨nd, rfl⟩⟩; refine ⟨_, rfl, ?_⟩))
 go_ret
 exact ⟨by first | rfl | (simp [errW_none, errW_some] <;> rfl) | (simp [*, errW_none, errW_some] <;> rfl), by repeat (first | (with_reducible first | exact HB.out | apply below_alloc | apply pw_below_drewN | apply below_drew1) | exact HB.out)⟩

end Go.Proofs.YtmicghhmbojkfaaGreatDoor.G
