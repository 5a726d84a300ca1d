/- The row of barrowtop. BarrowRunsAreSets, where what is read is small, printed by a small program of mine: the reading, the walk, the plain law. -/
import Derived.Test.YtmlfbgkaondljaaRows
import Derived.Test.YtmlfbgkaondljaaRwk
import Derived.Test.YtmlfbgkaondljaaBr
import Derived.WalkKit
import Derived.ProofKit
import Derived.OpenShut
import Derived.ShutString
import Derived.ChangeOld
import Derived.Below
import Derived.SizedLaws
import Derived.JoinedCond
import Derived.Deep.CondSized
namespace Go.Proofs.Ytmlfbgkaondljaa.barrowRunsAreSetsUpto
open Go.ChangeShapes Go.WideShapes Go.ChangeAt Go.RowKit
open Go.Proofs.Ytmlfbgkaondljaa.Br
set_option linter.unusedVariables false
theorem own : ownKnob Try.prog.godebug = none := by kernel_rfl
theorem laidOut : laidOutB Try.prog = true := by kernel_rfl
set_option maxRecDepth 100000 in
theorem lifted (os : Os) (started : os.Started) (H : Type) (enc : TypeId × Value → H) (F : Stop.Interp) :
    ReturnsInHanded {} Try.checked os 3 .any ((Rows.OpenSpec.upto Rows.barrowRunsAreSetsSpec).pre6 enc Try.prog Try.f3 Rows.barrowRunsAreSetsUptoRow.domain false) (((Rows.OpenSpec.upto Rows.barrowRunsAreSetsSpec).at F).post enc Try.prog Try.f3 false true false false) := by
  refine returnsInHanded_of_cond_sized (C := Try.checked) (s := Rows.OpenSpec.upto Rows.barrowRunsAreSetsSpec) (k := Rows.uptoSmall) rfl own started (by kernel_rfl) Try.func3
    (OpenSpec.witness (enc := enc) (C := Try.checked) (s := Rows.OpenSpec.upto Rows.barrowRunsAreSetsSpec) (k := Rows.uptoSmall) rfl false ⟨#[], #[.agg #[.slice none 0 0, .slice none 0 0, .slice none 0 0, .int .i64 0]], []⟩ 8 (by kernel_rfl) (by kernel_rfl) (by kernel_rfl)
      (x := ([.agg [.nil, .nil, .nil, .lit (.int .i64 0)]], [], [])) (by kernel_rfl) rfl (by kernel_rfl)) ?_
  intro W base args ds gs before hval0 hW hcnd hk0 hsz0 _
  have hsz : (DataW.weightsEach Try.prog (Try.f3.params.toList ++ Rows.barrowRunsAreSetsSpec.plain.varTypes Try.prog) (ds ++ gs)).all (· ≤ reachBytes) = true := hsz0
  have hval : ∀ (j : Nat) t v, Try.f3.params[j]? = some t → args[j]? = some v → Value.okWide Try.prog W .any base t v := hval0
  have hW' := hW
  obtain ⟨p, q, hA0, hV, rfl, hfz, hnd⟩ := hW
  have hA : DataW.TrodAll enc Try.prog W 0 (fun _ => true) true Try.f3.params.toList args.toList ds p := hA0
  rw [Try.params3] at hA hval hsz
  obtain ⟨v0, vs0, d0, ds0, p0, q0, hargs, rfl, rfl, h0, r0⟩ := trodAll_cons hA
  obtain ⟨rfl, rfl, rfl⟩ := trodAll_nil r0
  obtain rfl : args = #[v0] := by cases args; simp_all
  obtain ⟨rfl, rfl⟩ := trodVars_none hV
  have k0 := h0
  have lt0 : ∀ x ∈ p0, x.block < W.heap.size := by obtain ⟨m, hm⟩ := k0; exact DataW.trod_lt m _ _ _ hm
  obtain ⟨A0, A1, A2, c0, c1, c2, l0, l1, l2, e0, e1, e2, n, rfl, ⟨hc0, hc1, hc2⟩, ⟨hr0, hr1, hr2⟩, _, ⟨hD0, hD1, hD2⟩, rfl⟩ := open_three (hval 0 24 v0 rfl rfl) h0
  obtain ⟨hu0, hu1, hu2⟩ := three_small hk0 (List.mem_append_left _ (List.mem_singleton_self _)) hD0 hD1 hD2
  clear hA0 hval0 hsz0 hsz
  refine (G.barrowtop_BarrowRunsAreSets.calls _ _ l0 _ _ l1 _ _ l2 n W ⟨hr0, hc0⟩ ⟨hr1, hc1⟩ ⟨hr2, hc2⟩ (by omega) (by omega) (by omega)).mono fun e W' ⟨he, bel⟩ => ?_
  subst he
  exact ⟨_, rfl, _, _, _, [], _, [], hW', trodAll_mk1 (shut_bool Try.underlying4 _), (trodAll_cons_mk (Below.trod laidOut (by kernel_rfl) (of_decide_eq_true (by kernel_rfl)) k0 bel lt0) trodAll_mk0), rfl, bel.frame _, fun h => by cases h⟩
theorem proved : Rows.BarrowRunsAreSetsUptoSaid :=
  OpenClaim.holds_of_cond 3 Try.f3 rfl rfl rfl rfl rfl rfl rfl ⟨rfl, rfl, rfl, rfl, rfl⟩ rfl rfl rfl rfl rfl (by kernel_rfl) Try.func3 (by kernel_rfl)
    (of_decide_eq_true (by kernel_rfl)) (by unfold Func.isWrapper; first | (rw [if_pos (by decide +kernel)]; kernel_rfl) | (rw [if_neg (by decide +kernel)]; exact ⟨rfl, rfl⟩))
    (fun os started H enc _ F => lifted os started H enc F)
end Go.Proofs.Ytmlfbgkaondljaa.barrowRunsAreSetsUpto
namespace Go.Proofs.Ytmlfbgkaondljaa
/-- The row, under a short name, for the claim. -/
theorem barrowRunsAreSetsUpto_holds : Rows.BarrowRunsAreSetsUptoSaid := barrowRunsAreSetsUpto.proved
end Go.Proofs.Ytmlfbgkaondljaa
