import Derived.Test.YtlmdhpfggobogaaDoorTie
import Derived.Test.YtlmdhpfggobogaaDoorCards
import Derived.Test.YtlmdhpfggobogaaDoorQSm31
import Derived.Test.YtlmdhpfggobogaaDoorQSm18
import Derived.Test.YtlmdhpfggobogaaDoorQSm29
import Derived.Test.YtlmdhpfggobogaaDoorQSm32
import Derived.WalkKit
import Derived.ProofKit
import Derived.OpenShut
import Derived.ShutString
import Derived.ChangeOld
import Derived.Below
import Derived.SizedLaws
import Derived.LaidMore
import Derived.Lay
import Derived.SevenTiedAt
import Derived.Stop.Joined
import Derived.LaidSub
import Derived.Lib.LaidTab
import Derived.Deep.DeepHandedRow
/- ScriptMore: the row and its tied card, where what is read is small. The row lists tables of the library's (laid), which the card ties. -/
namespace Go.Proofs.YtlmdhpfggobogaaDoor.scriptMoreUpto
open Go.ChangeShapes Go.WideShapes Go.ChangeAt Go.RowKit
open Go.ChangeMaps (open_string shut_string)
open Go.Proofs.YtlmdhpfggobogaaDoor.Br
set_option linter.unusedVariables false
theorem own : ownKnob Tryd.prog.godebug = none := by kernel_rfl
theorem laidOut : laidOutB Tryd.prog = true := by kernel_rfl
theorem gPowAt : Tryd.prog.globalNamed "internal/strconv.uint64pow10" = some 1 := by kernel_rfl
theorem gPowType : (Tryd.prog.globals[1]?).map (·.type) = some 120 := by kernel_rfl
theorem cells120 : Tryd.prog.cellsOf 120 = 20 := by kernel_rfl
theorem cells107 : Tryd.prog.cellsOf 107 = 1 := by kernel_rfl
/-- What the row's list gives: the table of tens. -/
theorem table {W : World} (h : laidMetH Tryd.prog Rows.scriptMoreUptoRow.laid W) : G.Tab W :=
  Lib.tabIs_of_head (rest := []) gPowAt gPowType Tryd.underlying120 Tryd.underlying107 cells107 cells120 (h.filter fun x => x.1 == "internal/strconv.uint64pow10")
theorem tableE {W : World} (h : laidMetH Tryd.prog Rows.scriptMoreUptoRow.laid W) : G.TabE W :=
  ⟨errAt (rest := []) (g := 2) (by kernel_rfl) (by kernel_rfl) (h.filter fun x => x.1 == "strconv.ErrSyntax"), errAt (rest := []) (g := 3) (by kernel_rfl) (by kernel_rfl) (h.filter fun x => x.1 == "strconv.ErrRange")⟩
theorem reads (os : Os) {H : Type} (enc : TypeId × Value → H) : ∃ places, DataW.whole enc Tryd.prog ((World.laidAll Tryd.prog os Rows.scriptMoreUptoRow.laid).forCall (fun _ _ => 0) ⟨#[], #[.string ByteArray.empty, .agg #[.int .i64 0, .int .i64 0, .int .i64 0, .int .i64 0, .string ByteArray.empty, .int .i64 0, .int .i64 0], .string ByteArray.empty], []⟩).memory Tryd.f10.params.toList Rows.scriptMoreSpec.vars false #[.string ByteArray.empty, .agg #[.int .i64 0, .int .i64 0, .int .i64 0, .int .i64 0, .string ByteArray.empty, .int .i64 0, .int .i64 0], .string ByteArray.empty].toList 8 = some ([.lit (.string []), .agg [.lit (.int .i64 0), .lit (.int .i64 0), .lit (.int .i64 0), .lit (.int .i64 0), .lit (.string []), .lit (.int .i64 0), .lit (.int .i64 0)], .lit (.string [])], [], places) :=
  ⟨[], by kernel_rfl⟩
set_option maxRecDepth 100000 in
theorem lifted (os : Os) (started : os.Started) (H : Type) (enc : TypeId × Value → H) (F : Stop.Interp) :
    ReturnsInHanded {} Tryd.checked os 10 .any ((Rows.OpenSpec.upto Rows.scriptMoreSpec).preRow enc Tryd.prog Tryd.f10 Rows.scriptMoreUptoRow.domain false Rows.scriptMoreUptoRow.laid) (((Rows.OpenSpec.upto Rows.scriptMoreSpec).at F).post enc Tryd.prog Tryd.f10 false true false false) := by
  obtain ⟨places, hx⟩ := reads os enc
  refine returnsInHanded_of_row (C := Tryd.checked) (s := Rows.OpenSpec.upto Rows.scriptMoreSpec) own started (by kernel_rfl) Tryd.func10
    (witness_row_at (enc := enc) (C := Tryd.checked) false (World.laidAll Tryd.prog os Rows.scriptMoreUptoRow.laid) #[.string ByteArray.empty, .agg #[.int .i64 0, .int .i64 0, .int .i64 0, .int .i64 0, .string ByteArray.empty, .int .i64 0, .int .i64 0], .string ByteArray.empty] (World.laidAll_os _ _ _) (by kernel_rfl) (by kernel_rfl) (by kernel_rfl)
      (OpenSpec.preRow_of_cond 8 hx (by kernel_rfl) (fun k hk => by cases hk; kernel_rfl) (by kernel_rfl) (laidMet_laidAll _ (by kernel_rfl) (by kernel_rfl)))) ?_
  intro W base args ds gs before hval0 hW hcnd hk hsz0 hL hsh _
  have hk0 : Rows.uptoSmall H (ds ++ gs) = true := hk _ rfl
  have hsz : (DataW.weightsEach Tryd.prog (Tryd.f10.params.toList ++ Rows.scriptMoreSpec.plain.varTypes Tryd.prog) (ds ++ gs)).all (· ≤ reachBytes) = true := hsz0
  have hval : ∀ (j : Nat) t v, Tryd.f10.params[j]? = some t → args[j]? = some v → Value.okWide Tryd.prog W .any base t v := hval0
  have hW' := hW
  obtain ⟨p, q, hA0, hV, rfl, hfz, hnd⟩ := hW
  have hA : DataW.TrodAll enc Tryd.prog W 0 (fun _ => true) true Tryd.f10.params.toList args.toList ds p := hA0
  rw [Tryd.params10] at hA hval hsz
  obtain ⟨v0, vs0, d0, ds0, p0, q0, hargs, rfl, rfl, h0, r0⟩ := trodAll_cons hA
  obtain ⟨v1, vs1, d1, ds1, p1, q1, rfl, rfl, rfl, h1, r1⟩ := trodAll_cons r0
  obtain ⟨v2, vs2, d2, ds2, p2, q2, rfl, rfl, rfl, h2, r2⟩ := trodAll_cons r1
  obtain ⟨rfl, rfl, rfl⟩ := trodAll_nil r2
  obtain rfl : args = #[v0, v1, v2] := by cases args; simp_all
  obtain ⟨rfl, rfl⟩ := trodVars_none hV
  obtain ⟨a0, rfl, rfl, rfl, y0⟩ := open_string Tryd.underlying9 (hval 0 9 v0 rfl rfl) h0
  have hu0 : a0.size ≤ 1048576 := small_str (s := a0) hk0 (by simp)
  have k1 := h1
  have lt1 : ∀ x ∈ p1, x.block < W.heap.size := by obtain ⟨m, hm⟩ := k1; exact DataW.trod_lt m _ _ _ hm
  obtain ⟨o1, rfl, hD1⟩ := open_opv (hval 1 29 v1 rfl rfl) h1
  have hu1 := opv_small hk0 (by simp) hD1
  obtain ⟨a2, rfl, rfl, rfl, y2⟩ := open_string Tryd.underlying9 (hval 2 9 v2 rfl rfl) h2
  have hu2 : a2.size ≤ 1048576 := small_str (s := a2) hk0 (by simp)
  clear hA0 hval0 hsz0 hsz
  refine (G.barrowlaw24_ScriptMore.calls a0 o1.f0 o1.f1 o1.f2 o1.f3 o1.f4 o1.f5 o1.f6 a2 W ⟨table hL⟩ ⟨tableE hL⟩ ⟨tabM_of hsh⟩ hu0 hu1 hu2).mono fun e W' ⟨he, bel⟩ => ?_
  subst he
  exact ⟨_, rfl, _, _, _, [], _, [], hW', trodAll_mk1 (shut_bool Tryd.underlying4 _), (trodAll_cons_mk (shut_string Tryd.underlying9 y0) (trodAll_cons_mk (Below.trod laidOut (by kernel_rfl) (of_decide_eq_true (by kernel_rfl)) k1 bel lt1) (trodAll_cons_mk (shut_string Tryd.underlying9 y2) trodAll_mk0))), rfl, bel.frame _, fun h => by cases h⟩
theorem said : Rows.ScriptMoreUptoSaid :=
  OpenClaim.holds_of_cond 10 Tryd.f10 rfl rfl rfl rfl rfl rfl rfl ⟨rfl, rfl, rfl, rfl, rfl⟩ rfl rfl rfl rfl rfl (by kernel_rfl) Tryd.func10 (by kernel_rfl)
    (of_decide_eq_true (by kernel_rfl)) (by unfold Func.isWrapper; first | (rw [if_pos (by decide +kernel)]; kernel_rfl) | (rw [if_neg (by decide +kernel)]; exact ⟨rfl, rfl⟩))
    (fun os started H enc _ F => by rw [OpenClaim.pre_eq_preRow]; exact lifted os started H enc F)
theorem plain (f : FuncId) (fn : Func) (hf : Tryd.pinned.checked.prog.funcNamed "barrow/barrowlaw24.ScriptMore" = some f) (hfn : Tryd.pinned.checked.prog.funcs[f]? = some fn) :
    true = Tryd.pinned.checked.prog.looks [] ∧ ∀ (j : Nat) t, fn.params[j]? = some t → Tryd.pinned.checked.prog.wantsStandIn t = false := by
  obtain rfl : f = 10 := Option.some.inj ((show Tryd.prog.funcNamed "barrow/barrowlaw24.ScriptMore" = some 10 by kernel_rfl).symm.trans hf) |>.symm
  obtain rfl : fn = Tryd.f10 := (Option.some.inj (Tryd.func10.symm.trans hfn)).symm
  refine ⟨by kernel_rfl, fun j t ht => ?_⟩
  rw [Tryd.params10] at ht
  have hm : t ∈ [9, 29, 9] := by simpa using Array.mem_of_getElem? ht
  have hall : ([9, 29, 9].all fun u => !Tryd.prog.wantsStandIn u) = true := by kernel_rfl
  exact (show Tryd.prog.wantsStandIn t = false by simpa using List.all_eq_true.1 hall t hm)
theorem card : Rows.ScriptMoreUptoCardSaid :=
  Claim7.holds_tied_plain_at .later [] _ _ _ _ said (fun _ h => by cases h) (by kernel_rfl) (fun _ h => by cases h) scriptMoreUpto_row_tie rfl ⟨rfl, rfl⟩ (by kernel_rfl) rfl plain (by kernel_rfl)
end Go.Proofs.YtlmdhpfggobogaaDoor.scriptMoreUpto
namespace Go.Proofs.YtlmdhpfggobogaaDoor
/-- The card, under a short name, for the claim. -/
theorem scriptMoreUptoCard_holds : Rows.ScriptMoreUptoCardSaid := scriptMoreUpto.card
end Go.Proofs.YtlmdhpfggobogaaDoor
