import Derived.Test.YtlmdhpfggobogaaDoorTie
import Derived.Test.YtlmdhpfggobogaaDoorCards
import Derived.Test.YtlmdhpfggobogaaDoorQSk30
import Derived.Test.YtlmdhpfggobogaaDoorQSk18
import Derived.Test.YtlmdhpfggobogaaDoorQSk29
import Derived.Test.YtlmdhpfggobogaaDoorQSk32
import Derived.Test.YtlmdhpfggobogaaDoorQSk31
import Derived.WalkKit
import Derived.ProofKit
import Derived.OpenShut
import Derived.ShutString
import Derived.ChangeOld
import Derived.Below
import Derived.SizedLaws
import Derived.LaidMore
import Derived.Lay
import Derived.SevenTiedAt
import Derived.Stop.Joined
import Derived.LaidSub
import Derived.Lib.LaidTab
import Derived.Deep.DeepHandedRow
/- ScriptKeeps: the row and its tied card, where what is read is small. The row lists tables of the library's (laid), which the card ties. -/
namespace Go.Proofs.YtlmdhpfggobogaaDoor.scriptKeepsUpto
open Go.ChangeShapes Go.WideShapes Go.ChangeAt Go.RowKit
open Go.ChangeMaps (open_string shut_string)
open Go.Proofs.YtlmdhpfggobogaaDoor.Br
set_option linter.unusedVariables false
theorem own : ownKnob Tryd.prog.godebug = none := by kernel_rfl
theorem laidOut : laidOutB Tryd.prog = true := by kernel_rfl
theorem gPowAt : Tryd.prog.globalNamed "internal/strconv.uint64pow10" = some 1 := by kernel_rfl
theorem gPowType : (Tryd.prog.globals[1]?).map (·.type) = some 120 := by kernel_rfl
theorem cells120 : Tryd.prog.cellsOf 120 = 20 := by kernel_rfl
theorem cells107 : Tryd.prog.cellsOf 107 = 1 := by kernel_rfl
/-- What the row's list gives: the table of tens. -/
theorem table {W : World} (h : laidMetH Tryd.prog Rows.scriptKeepsUptoRow.laid W) : G.Tab W :=
  Lib.tabIs_of_head (rest := []) gPowAt gPowType Tryd.underlying120 Tryd.underlying107 cells107 cells120 (h.filter fun x => x.1 == "internal/strconv.uint64pow10")
theorem tableE {W : World} (h : laidMetH Tryd.prog Rows.scriptKeepsUptoRow.laid W) : G.TabE W :=
  ⟨errAt (rest := []) (g := 2) (by kernel_rfl) (by kernel_rfl) (h.filter fun x => x.1 == "strconv.ErrSyntax"), errAt (rest := []) (g := 3) (by kernel_rfl) (by kernel_rfl) (h.filter fun x => x.1 == "strconv.ErrRange")⟩
theorem reads (os : Os) {H : Type} (enc : TypeId × Value → H) : ∃ places, DataW.whole enc Tryd.prog ((World.laidAll Tryd.prog os Rows.scriptKeepsUptoRow.laid).forCall (fun _ _ => 0) ⟨#[], #[.agg #[.int .i64 0, .int .i64 0, .int .i64 0, .int .i64 0, .int .i64 0, .int .i64 0, .slice none 0 0]], []⟩).memory Tryd.f13.params.toList Rows.scriptKeepsSpec.vars false #[.agg #[.int .i64 0, .int .i64 0, .int .i64 0, .int .i64 0, .int .i64 0, .int .i64 0, .slice none 0 0]].toList 8 = some ([.agg [.agg [.lit (.int .i64 0), .lit (.int .i64 0), .lit (.int .i64 0), .lit (.int .i64 0), .lit (.int .i64 0), .lit (.int .i64 0)], .nil]], [], places) :=
  ⟨[], by kernel_rfl⟩
set_option maxRecDepth 100000 in
theorem lifted (os : Os) (started : os.Started) (H : Type) (enc : TypeId × Value → H) (F : Stop.Interp) :
    ReturnsInHanded {} Tryd.checked os 13 .any ((Rows.OpenSpec.upto Rows.scriptKeepsSpec).preRow enc Tryd.prog Tryd.f13 Rows.scriptKeepsUptoRow.domain false Rows.scriptKeepsUptoRow.laid) (((Rows.OpenSpec.upto Rows.scriptKeepsSpec).at F).post enc Tryd.prog Tryd.f13 false true false false) := by
  obtain ⟨places, hx⟩ := reads os enc
  refine returnsInHanded_of_row (C := Tryd.checked) (s := Rows.OpenSpec.upto Rows.scriptKeepsSpec) own started (by kernel_rfl) Tryd.func13
    (witness_row_at (enc := enc) (C := Tryd.checked) false (World.laidAll Tryd.prog os Rows.scriptKeepsUptoRow.laid) #[.agg #[.int .i64 0, .int .i64 0, .int .i64 0, .int .i64 0, .int .i64 0, .int .i64 0, .slice none 0 0]] (World.laidAll_os _ _ _) (by kernel_rfl) (by kernel_rfl) (by kernel_rfl)
      (OpenSpec.preRow_of_cond 8 hx (by kernel_rfl) (fun k hk => by cases hk; kernel_rfl) (by kernel_rfl) (laidMet_laidAll _ (by kernel_rfl) (by kernel_rfl)))) ?_
  intro W base args ds gs before hval0 hW hcnd hk hsz0 hL hsh _
  have hk0 : Rows.uptoSmall H (ds ++ gs) = true := hk _ rfl
  have hsz : (DataW.weightsEach Tryd.prog (Tryd.f13.params.toList ++ Rows.scriptKeepsSpec.plain.varTypes Tryd.prog) (ds ++ gs)).all (· ≤ reachBytes) = true := hsz0
  have hval : ∀ (j : Nat) t v, Tryd.f13.params[j]? = some t → args[j]? = some v → Value.okWide Tryd.prog W .any base t v := hval0
  have hW' := hW
  obtain ⟨p, q, hA0, hV, rfl, hfz, hnd⟩ := hW
  have hA : DataW.TrodAll enc Tryd.prog W 0 (fun _ => true) true Tryd.f13.params.toList args.toList ds p := hA0
  rw [Tryd.params13] at hA hval hsz
  obtain ⟨v0, vs0, d0, ds0, p0, q0, hargs, rfl, rfl, h0, r0⟩ := trodAll_cons hA
  obtain ⟨rfl, rfl, rfl⟩ := trodAll_nil r0
  obtain rfl : args = #[v0] := by cases args; simp_all
  obtain ⟨rfl, rfl⟩ := trodVars_none hV
  have k0 := h0
  have lt0 : ∀ x ∈ p0, x.block < W.heap.size := by obtain ⟨m, hm⟩ := k0; exact DataW.trod_lt m _ _ _ hm
  obtain ⟨a0_0, a0_1, a0_2, a0_3, a0_4, a0_5, A0, c0, l0, dl0, rfl, hc0, hr0, hD0, rfl, w0_0, w0_1, w0_2, w0_3, w0_4, w0_5⟩ := open_script (hval 0 26 v0 rfl rfl) h0
  have hu0 := script_small hk0 (by simp) hD0 w0_0 w0_1 w0_2 w0_3 w0_4 w0_5
  have hw0 := script_wgt8 (a0 := a0_0) (a1 := a0_1) (a2 := a0_2) (a3 := a0_3) (a4 := a0_4) (a5 := a0_5) hk0 (by simp) hD0
  clear hA0 hval0 hsz0 hsz
  refine (G.barrowlaw24_ScriptKeeps.calls a0_0 a0_1 a0_2 a0_3 a0_4 a0_5 _ _ l0 W ⟨table hL⟩ ⟨tableE hL⟩ ⟨tabM_of hsh⟩ hr0 hc0 hu0 hw0).mono fun e W' ⟨he, bel⟩ => ?_
  subst he
  exact ⟨_, rfl, _, _, _, [], _, [], hW', trodAll_mk1 (shut_bool Tryd.underlying4 _), (trodAll_cons_mk (Below.trod laidOut (by kernel_rfl) (of_decide_eq_true (by kernel_rfl)) k0 bel lt0) trodAll_mk0), rfl, bel.frame _, fun h => by cases h⟩
theorem said : Rows.ScriptKeepsUptoSaid :=
  OpenClaim.holds_of_cond 13 Tryd.f13 rfl rfl rfl rfl rfl rfl rfl ⟨rfl, rfl, rfl, rfl, rfl⟩ rfl rfl rfl rfl rfl (by kernel_rfl) Tryd.func13 (by kernel_rfl)
    (of_decide_eq_true (by kernel_rfl)) (by unfold Func.isWrapper; first | (rw [if_pos (by decide +kernel)]; kernel_rfl) | (rw [if_neg (by decide +kernel)]; exact ⟨rfl, rfl⟩))
    (fun os started H enc _ F => by rw [OpenClaim.pre_eq_preRow]; exact lifted os started H enc F)
theorem plain (f : FuncId) (fn : Func) (hf : Tryd.pinned.checked.prog.funcNamed "barrow/barrowlaw24.ScriptKeeps" = some f) (hfn : Tryd.pinned.checked.prog.funcs[f]? = some fn) :
    true = Tryd.pinned.checked.prog.looks [] ∧ ∀ (j : Nat) t, fn.params[j]? = some t → Tryd.pinned.checked.prog.wantsStandIn t = false := by
  obtain rfl : f = 13 := Option.some.inj ((show Tryd.prog.funcNamed "barrow/barrowlaw24.ScriptKeeps" = some 13 by kernel_rfl).symm.trans hf) |>.symm
  obtain rfl : fn = Tryd.f13 := (Option.some.inj (Tryd.func13.symm.trans hfn)).symm
  refine ⟨by kernel_rfl, fun j t ht => ?_⟩
  rw [Tryd.params13] at ht
  have hm : t ∈ [26] := by simpa using Array.mem_of_getElem? ht
  have hall : ([26].all fun u => !Tryd.prog.wantsStandIn u) = true := by kernel_rfl
  exact (show Tryd.prog.wantsStandIn t = false by simpa using List.all_eq_true.1 hall t hm)
theorem card : Rows.ScriptKeepsUptoCardSaid :=
  Claim7.holds_tied_plain_at .later [] _ _ _ _ said (fun _ h => by cases h) (by kernel_rfl) (fun _ h => by cases h) scriptKeepsUpto_row_tie rfl ⟨rfl, rfl⟩ (by kernel_rfl) rfl plain (by kernel_rfl)
end Go.Proofs.YtlmdhpfggobogaaDoor.scriptKeepsUpto
namespace Go.Proofs.YtlmdhpfggobogaaDoor
/-- The card, under a short name, for the claim. -/
theorem scriptKeepsUptoCard_holds : Rows.ScriptKeepsUptoCardSaid := scriptKeepsUpto.card
end Go.Proofs.YtlmdhpfggobogaaDoor
