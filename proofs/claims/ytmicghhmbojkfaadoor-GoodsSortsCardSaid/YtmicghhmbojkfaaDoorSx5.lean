-- PRINTED by print.py (a twelfth state) out of the translation. Not trusted: Lean checks it.
import Derived.Test.YtmicghhmbojkfaaDoorSx0
import Derived.Test.YtmicghhmbojkfaaDoorSx4
import Derived.Test.YtmicghhmbojkfaaDoorSSrt
namespace Go.Proofs.YtmicghhmbojkfaaDoor.S
open Go.RowKit Go.Proofs.YtmicghhmbojkfaaDoorW.PrintWords Go.Proofs.YtmicghhmbojkfaaDoorW.PrintLast Go.Proofs.YtmicghhmbojkfaaDoorW.PrintMore
attribute [local go_sem] max2_int min2_int max_two min_two max_three min_three max_four min_four   -- for this text's walks alone
set_option linter.unusedVariables false
set_option linter.unusedSimpArgs false

/-! ### barrowlaw02_GoodsSorts: function 6 -/
mutual
def barrowlaw02_GoodsSorts.j0 : Nat → List ByteArray → Bool → Option (Bool)
 | 0, _, _ => none
 | k + 1, x0, x17 => if x17 = true then (some false) else ((barrowref02_Sort.f k x0).bind fun t149 => ((goods_Sort.f x0).bind fun t152 => (if (t152.length : Int) = (t149.length : Int) then (barrowlaw02_GoodsSorts.l0 k t149 t152 0) else (some false))))
def barrowlaw02_GoodsSorts.l0 : Nat → List ByteArray → List ByteArray → Int → Option (Bool)
 | 0, _, _, _ => none
 | k + 1, x4, x5, x6 => if x6 < (x5.length : Int) then (if 0 ≤ x6 then (if x6 < (x4.length : Int) then (if (rdOf ByteArray.empty x5 x6).toList = (rdOf ByteArray.empty x4 x6).toList then (barrowlaw02_GoodsSorts.l0 k x4 x5 (wrap64 (x6 + 1))) else (some false)) else (none)) else (none)) else (some true)
end
def barrowlaw02_GoodsSorts.f (k : Nat) (l0 : List ByteArray) : Option (Bool) := (goods_Sort.f (([(⟨#[65, 49, 48]⟩ : ByteArray), (⟨#[65, 50]⟩ : ByteArray)] : List ByteArray))).bind fun t145 => (if (t145.length : Int) = 2 then (if 0 < (t145.length : Int) then (barrowlaw02_GoodsSorts.j0 k l0 ((rdOf ByteArray.empty t145 0).toList != ([65, 50] : List UInt8))) else (none)) else (barrowlaw02_GoodsSorts.j0 k l0 true))
theorem barrowlaw02_GoodsSorts.mono_l : ∀ k, (∀ y0 y1, LeO (barrowlaw02_GoodsSorts.j0 k y0 y1) (barrowlaw02_GoodsSorts.j0 (k + 1) y0 y1)) ∧ (∀ y0 y1 y2, LeO (barrowlaw02_GoodsSorts.l0 k y0 y1 y2) (barrowlaw02_GoodsSorts.l0 (k + 1) y0 y1 y2))
 | 0 => ⟨fun _ _ r h => by simp [barrowlaw02_GoodsSorts.j0] at h, fun _ _ _ r h => by simp [barrowlaw02_GoodsSorts.l0] at h⟩
 | k + 1 => by
  obtain ⟨ih0, ih1⟩ := barrowlaw02_GoodsSorts.mono_l k
  refine ⟨?_, ?_⟩
  ·intro y0 y1
   unfold barrowlaw02_GoodsSorts.j0
   repeat' first
   | (with_reducible exact ih0 _ _)
   | (with_reducible exact ih1 _ _ _)
   | (with_reducible exact barrowref02_Sort.mono _ _)
   | (with_reducible exact LeO.refl _)
   | (with_reducible exact LeO.none _)
   | (with_reducible refine LeO.ite ?_ ?_)
   | (with_reducible refine LeO.bind ?_ (fun _ => ?_))
   | exact ih0 _ _
   | exact ih1 _ _ _
   | exact barrowref02_Sort.mono _ _
   | exact LeO.none _
   | refine LeO.ite ?_ ?_
   | refine LeO.bind ?_ (fun _ => ?_)
  ·intro y0 y1 y2
   unfold barrowlaw02_GoodsSorts.l0
   repeat' first
   | (with_reducible exact ih0 _ _)
   | (with_reducible exact ih1 _ _ _)
   | (with_reducible exact barrowref02_Sort.mono _ _)
   | (with_reducible exact LeO.refl _)
   | (with_reducible exact LeO.none _)
   | (with_reducible refine LeO.ite ?_ ?_)
   | (with_reducible refine LeO.bind ?_ (fun _ => ?_))
   | exact ih0 _ _
   | exact ih1 _ _ _
   | exact barrowref02_Sort.mono _ _
   | exact LeO.none _
   | refine LeO.ite ?_ ?_
   | refine LeO.bind ?_ (fun _ => ?_)
theorem barrowlaw02_GoodsSorts.mono : ∀ a0 k, LeO (barrowlaw02_GoodsSorts.f k a0) (barrowlaw02_GoodsSorts.f (k + 1) a0) := by
 intro a0 k
 obtain ⟨ih0, ih1⟩ := barrowlaw02_GoodsSorts.mono_l k
 unfold barrowlaw02_GoodsSorts.f
 repeat' first
   | (with_reducible exact ih0 _ _)
   | (with_reducible exact ih1 _ _ _)
   | (with_reducible exact barrowref02_Sort.mono _ _)
   | (with_reducible exact LeO.refl _)
   | (with_reducible exact LeO.none _)
   | (with_reducible refine LeO.ite ?_ ?_)
   | (with_reducible refine LeO.bind ?_ (fun _ => ?_))
   | exact ih0 _ _
   | exact ih1 _ _ _
   | exact barrowref02_Sort.mono _ _
   | exact LeO.none _
   | refine LeO.ite ?_ ?_
   | refine LeO.bind ?_ (fun _ => ?_)
set_option maxHeartbeats 8000000 in
set_option maxRecDepth 100000 in
theorem barrowlaw02_GoodsSorts.calls (k : Nat) (A0 : Option Addr) (c0 : Nat) (l0 : List ByteArray) (r : Bool) (w : World) (hr0 : Kd.C Kd.string w A0 l0.length l0) (hc0 : l0.length ≤ c0) (h : barrowlaw02_GoodsSorts.f k l0 = some r) :
  Calls Tryd.prog 6 #[.slice A0 l0.length c0] w fun e w' => e = .returned (.bool r) ∧ Below w.heap.size w w' := by
 have HR0 := Aside0.mk hr0
 have HC0 := Aside0.mk hc0
 clear hr0 hc0
 have HB := Aside0.mk (Below.refl w.heap.size w)
 have H : ((goods_Sort.f (([(⟨#[65, 49, 48]⟩ : ByteArray), (⟨#[65, 50]⟩ : ByteArray)] : List ByteArray))).bind fun t145 => (if (t145.length : Int) = 2 then (if 0 < (t145.length : Int) then (barrowlaw02_GoodsSorts.j0 k l0 ((rdOf ByteArray.empty t145 0).toList != ([65, 50] : List UInt8))) else (none)) else (barrowlaw02_GoodsSorts.j0 k l0 true))) = some r := h
 clear h
 obtain ⟨y142, hy142⟩ : ∃ y_ : List ByteArray, y_ = (([(⟨#[65, 49, 48]⟩ : ByteArray), (⟨#[65, 50]⟩ : ByteArray)] : List ByteArray)) := ⟨_, rfl⟩
 replace H : ((goods_Sort.f y142).bind fun t145 => (if (t145.length : Int) = 2 then (if 0 < (t145.length : Int) then (barrowlaw02_GoodsSorts.j0 k l0 ((rdOf ByteArray.empty t145 0).toList != ([65, 50] : List UInt8))) else (none)) else (barrowlaw02_GoodsSorts.j0 k l0 true))) = some r := by first | (rw [hy142]; with_reducible exact H) | (have H2_ := (Option.bind_some _ _).symm.trans H; rw [hy142]; with_reducible exact H2_) | (have H2_ := (Option.bind_some _ _).symm.trans H; with_reducible exact H2_) | with_reducible exact H | (rw [hy142]; exact H) | exact H
 have Ny142 := Aside0.mk hy142
 clear hy142
 replace H := Option.bind_eq_some_iff.mp H
 obtain ⟨t145, A20, H⟩ := H
 replace H : (if (t145.length : Int) = 2 then (if 0 < (t145.length : Int) then (barrowlaw02_GoodsSorts.j0 k l0 ((rdOf ByteArray.empty t145 0).toList != ([65, 50] : List UInt8))) else (none)) else (barrowlaw02_GoodsSorts.j0 k l0 true)) = some r := H
 have A2 := Aside0.mk A20
 clear A20
 have HC3 := Aside0.mk H
 clear H
 go_enter Tryd.func6, Tryd.ntmps6
 go_upto_region 2 with (first | ((with_reducible refine gate_dst (N := 7) rfl ?_); refine Kd.R_lit Kd.string _ 9 ?hg (N := 7) ?hd (xs := ([(⟨#[65, 49, 48]⟩ : ByteArray), (⟨#[65, 50]⟩ : ByteArray)] : List ByteArray)) (inner := [.string (⟨#[65, 49, 48]⟩ : ByteArray), .string (⟨#[65, 50]⟩ : ByteArray)]) (ok := fun _ => True) (okp := fun _ => True) ?hr ?hp (fun _ hk => hk) trivial (Below.refl _ _) (Nat.le_refl _) (by simp) ?_; (case hd => rfl); (case hg => rfl); (case hr => first | (go_simp; done) | (go_simp; rfl)); (case hp => exact (Reps.one (show Kd.M Kd.string _ _ _ (⟨#[65, 49, 48]⟩ : ByteArray) [.string (⟨#[65, 49, 48]⟩ : ByteArray)] from rfl) (Reps.one (show Kd.M Kd.string _ _ _ (⟨#[65, 50]⟩ : ByteArray) [.string (⟨#[65, 50]⟩ : ByteArray)] from rfl) (Reps.none _ _)))); intro v143 w4 ho5 hb hg_ hnew_; clear hg_ hnew_; (first | rw [← Ny142.out] at ho5 | (simp only [Int.reduceToNat] at ho5; rw [← Ny142.out] at ho5)); have n0_ := Aside0.mk (Kd.R_lower ho5 (below_size (by repeat (first | (with_reducible first | exact HB.out | apply below_alloc | apply pw_below_drewN | apply below_drew1) | exact HB.out)))); have n1_ := Aside0.mk (below_step (by repeat (first | (with_reducible first | exact HB.out | apply below_alloc | apply pw_below_drewN | apply below_drew1) | exact HB.out)) hb); clear HB; have HO144 := n0_; have HB := n1_; clear n0_ n1_; clear hb ho5; obtain ⟨Ao6, co6, eo6⟩ := Kd.R_slice HO144.out; subst eo6) | (go_at_call 13; (with_reducible refine (goods_Sort.calls _ _ y142 t145 _ ?side1 ?side2 A2.out).mono ?_); (case side1 => repeat (first | exact (Kd.R_reads' HO144.out).2.2 | (with_reducible refine Kd.C_alloc ?_ _) | (with_reducible refine Kd.C_drewN ?_ _) | (with_reducible refine Kd.C_drew ?_))); (case side2 => exact (Kd.R_reads' HO144.out).2.1); rintro e w7 ⟨v146, rfl, ho0, hb⟩; have n0_ := Aside0.mk (Kd.R_below (by (with_reducible repeat (first | apply Kd.R_alloc | apply Kd.R_drewN | apply Kd.R_drew)); exact HO144.out) hb); have n1_ := Aside0.mk (Kd.V_lower (Kd.V_mono (ok' := fun k_ => some k_ ≠ (.slice Ao6 y142.length co6 : Value).ownBlock) ho0 (fun k_ hk_ => (Kd.fresh' (Kd.R_lt (by (with_reducible repeat (first | apply Kd.R_alloc | apply Kd.R_drewN | apply Kd.R_drew)); exact HO144.out)) k_ hk_.2.1))) (below_size (by repeat (first | (with_reducible first | exact HB.out | apply below_alloc | apply pw_below_drewN | apply below_drew1) | exact HB.out)))); have n2_ := Aside0.mk (below_step (by repeat (first | (with_reducible first | exact HB.out | apply below_alloc | apply pw_below_drewN | apply below_drew1) | exact HB.out)) hb); clear HO144; clear HB; have HO144 := n0_; have HO147 := n1_; have HB := n2_; clear n0_ n1_ n2_; (try clear hb); (try clear hb2); (try clear hk); (try clear hi); (try clear ho0)))
 repeat (go_quiet (first | ((with_reducible refine gate_dst (N := 7) rfl ?_); refine Kd.R_lit Kd.string _ 9 ?hg (N := 7) ?hd (xs := ([(⟨#[65, 49, 48]⟩ : ByteArray), (⟨#[65, 50]⟩ : ByteArray)] : List ByteArray)) (inner := [.string (⟨#[65, 49, 48]⟩ : ByteArray), .string (⟨#[65, 50]⟩ : ByteArray)]) (ok := fun _ => True) (okp := fun _ => True) ?hr ?hp (fun _ hk => hk) trivial (Below.refl _ _) (Nat.le_refl _) (by simp) ?_; (case hd => rfl); (case hg => rfl); (case hr => first | (go_simp; done) | (go_simp; rfl)); (case hp => exact (Reps.one (show Kd.M Kd.string _ _ _ (⟨#[65, 49, 48]⟩ : ByteArray) [.string (⟨#[65, 49, 48]⟩ : ByteArray)] from rfl) (Reps.one (show Kd.M Kd.string _ _ _ (⟨#[65, 50]⟩ : ByteArray) [.string (⟨#[65, 50]⟩ : ByteArray)] from rfl) (Reps.none _ _)))); intro v143 w4 ho5 hb hg_ hnew_; clear hg_ hnew_; (first | rw [← Ny142.out] at ho5 | (simp only [Int.reduceToNat] at ho5; rw [← Ny142.out] at ho5)); have n0_ := Aside0.mk (Kd.R_lower ho5 (below_size (by repeat (first | (with_reducible first | exact HB.out | apply below_alloc | apply pw_below_drewN | apply below_drew1) | exact HB.out)))); have n1_ := Aside0.mk (below_step (by repeat (first | (with_reducible first | exact HB.out | apply below_alloc | apply pw_below_drewN | apply below_drew1) | exact HB.out)) hb); clear HB; have HO144 := n0_; have HB := n1_; clear n0_ n1_; clear hb ho5; obtain ⟨Ao6, co6, eo6⟩ := Kd.R_slice HO144.out; subst eo6) | (go_at_call 13; (with_reducible refine (goods_Sort.calls _ _ y142 t145 _ ?side1 ?side2 A2.out).mono ?_); (case side1 => repeat (first | exact (Kd.R_reads' HO144.out).2.2 | (with_reducible refine Kd.C_alloc ?_ _) | (with_reducible refine Kd.C_drewN ?_ _) | (with_reducible refine Kd.C_drew ?_))); (case side2 => exact (Kd.R_reads' HO144.out).2.1); rintro e w7 ⟨v146, rfl, ho0, hb⟩; have n0_ := Aside0.mk (Kd.R_below (by (with_reducible repeat (first | apply Kd.R_alloc | apply Kd.R_drewN | apply Kd.R_drew)); exact HO144.out) hb); have n1_ := Aside0.mk (Kd.V_lower (Kd.V_mono (ok' := fun k_ => some k_ ≠ (.slice Ao6 y142.length co6 : Value).ownBlock) ho0 (fun k_ hk_ => (Kd.fresh' (Kd.R_lt (by (with_reducible repeat (first | apply Kd.R_alloc | apply Kd.R_drewN | apply Kd.R_drew)); exact HO144.out)) k_ hk_.2.1))) (below_size (by repeat (first | (with_reducible first | exact HB.out | apply below_alloc | apply pw_below_drewN | apply below_drew1) | exact HB.out)))); have n2_ := Aside0.mk (below_step (by repeat (first | (with_reducible first | exact HB.out | apply below_alloc | apply pw_below_drewN | apply below_drew1) | exact HB.out)) hb); clear HO144; clear HB; have HO144 := n0_; have HO147 := n1_; have HB := n2_; clear n0_ n1_ n2_; (try clear hb); (try clear hb2); (try clear hk); (try clear hi); (try clear ho0))); go_upto_region 2 with (first | ((with_reducible refine gate_dst (N := 7) rfl ?_); refine Kd.R_lit Kd.string _ 9 ?hg (N := 7) ?hd (xs := ([(⟨#[65, 49, 48]⟩ : ByteArray), (⟨#[65, 50]⟩ : ByteArray)] : List ByteArray)) (inner := [.string (⟨#[65, 49, 48]⟩ : ByteArray), .string (⟨#[65, 50]⟩ : ByteArray)]) (ok := fun _ => True) (okp := fun _ => True) ?hr ?hp (fun _ hk => hk) trivial (Below.refl _ _) (Nat.le_refl _) (by simp) ?_; (case hd => rfl); (case hg => rfl); (case hr => first | (go_simp; done) | (go_simp; rfl)); (case hp => exact (Reps.one (show Kd.M Kd.string _ _ _ (⟨#[65, 49, 48]⟩ : ByteArray) [.string (⟨#[65, 49, 48]⟩ : ByteArray)] from rfl) (Reps.one (show Kd.M Kd.string _ _ _ (⟨#[65, 50]⟩ : ByteArray) [.string (⟨#[65, 50]⟩ : ByteArray)] from rfl) (Reps.none _ _)))); intro v143 w4 ho5 hb hg_ hnew_; clear hg_ hnew_; (first | rw [← Ny142.out] at ho5 | (simp only [Int.reduceToNat] at ho5; rw [← Ny142.out] at ho5)); have n0_ := Aside0.mk (Kd.R_lower ho5 (below_size (by repeat (first | (with_reducible first | exact HB.out | apply below_alloc | apply pw_below_drewN | apply below_drew1) | exact HB.out)))); have n1_ := Aside0.mk (below_step (by repeat (first | (with_reducible first | exact HB.out | apply below_alloc | apply pw_below_drewN | apply below_drew1) | exact HB.out)) hb); clear HB; have HO144 := n0_; have HB := n1_; clear n0_ n1_; clear hb ho5; obtain ⟨Ao6, co6, eo6⟩ := Kd.R_slice HO144.out; subst eo6) | (go_at_call 13; (with_reducible refine (goods_Sort.calls _ _ y142 t145 _ ?side1 ?side2 A2.out).mono ?_); (case side1 => repeat (first | exact (Kd.R_reads' HO144.out).2.2 | (with_reducible refine Kd.C_alloc ?_ _) | (with_reducible refine Kd.C_drewN ?_ _) | (with_reducible refine Kd.C_drew ?_))); (case side2 => exact (Kd.R_reads' HO144.out).2.1); rintro e w7 ⟨v146, rfl, ho0, hb⟩; have n0_ := Aside0.mk (Kd.R_below (by (with_reducible repeat (first | apply Kd.R_alloc | apply Kd.R_drewN | apply Kd.R_drew)); exact HO144.out) hb); have n1_ := Aside0.mk (Kd.V_lower (Kd.V_mono (ok' := fun k_ => some k_ ≠ (.slice Ao6 y142.length co6 : Value).ownBlock) ho0 (fun k_ hk_ => (Kd.fresh' (Kd.R_lt (by (with_reducible repeat (first | apply Kd.R_alloc | apply Kd.R_drewN | apply Kd.R_drew)); exact HO144.out)) k_ hk_.2.1))) (below_size (by repeat (first | (with_reducible first | exact HB.out | apply below_alloc | apply pw_below_drewN | apply below_drew1) | exact HB.out)))); have n2_ := Aside0.mk (below_step (by repeat (first | (with_reducible first | exact HB.out | apply below_alloc | apply pw_below_drewN | apply below_drew1) | exact HB.out)) hb); clear HO144; clear HB; have HO144 := n0_; have HO147 := n1_; have HB := n2_; clear n0_ n1_ n2_; (try clear hb); (try clear hb2); (try clear hk); (try clear hi); (try clear ho0))))
 (try simp only [Act.put, List.setIfInBounds_toArray, List.set_cons_zero, List.set_cons_succ])
 go_cut [17] (fun v17 wc => ∃ (kq : Nat) (x17_2 : Bool), v17 = .bool x17_2 ∧ Aside0 (barrowlaw02_GoodsSorts.j0 kq l0 x17_2 = some r) ∧ Aside0 (kq ≤ k) ∧ Aside0 (Below w.heap.size w wc))
 case first =>
  have H := HC3.out
  clear HC3
  by_cases c8 : (t145.length : Int) = 2
  ·rw [if_pos c8] at H
   have c8b0 : ((t145.length : Int) == 2) = true := beq_iff_eq.mpr c8
   have c8b1 : ((t145.length : Int) != 2) = false := bne_eq_false_iff_eq.mpr c8
   clear c8
   (first | rw [c8b0] | (simp only [i64_w, i32_w]; rw [c8b0]) | skip)
   by_cases c9 : 0 < (t145.length : Int)
   ·rw [if_pos c9] at H
    have c9b0 : decide (0 < (t145.length : Int)) = true := decide_eq_true c9
    have c9b1 : decide (0 < t145.length) = true := decide_eq_true (by omega)
    clear c9
    have H' := Aside0.mk H
    clear H
    obtain ⟨Ao10, co10, eo10⟩ := Kd.V_slice HO147.out
    subst eo10
    have p148 : 0 ≤ (0 : Int) := (by omega)
    have q148 : 0 < (t145.length : Int) := of_decide_eq_true (by first | (with_reducible assumption) | assumption)
    obtain ⟨ad148, e148, hx148_0⟩ := Kd.at_string (Kd.V_reads' HO147.out).2.2 0 p148 q148
    cases e148
    have qi148 : (0 < t145.length) = True := eq_true (by omega)
    (try rw [show ((0 : Int)).toNat = 0 from rfl] at hx148_0)
    (try rw [Addr.add_zero'] at hx148_0)
    replace p148 := eq_true p148
    replace q148 := eq_true q148
    go_wp2
    repeat (go_quiet (fail); try go_wp2)
    go_meet
    case rel => exact ⟨_, (((rdOf ByteArray.empty t145 0).toList != ([65, 50] : List UInt8))), (by first | rfl | (simp; done) | (simp [*]; done)), H', ⟨by first | omega | exact Nat.le_refl _⟩, ⟨by repeat (first | (with_reducible first | exact HB.out | apply below_alloc | apply pw_below_drewN | apply below_drew1) | exact HB.out)⟩⟩
   ·rw [if_neg c9] at H
    exact absurd H (by simp)
  ·rw [if_neg c8] at H
   have c8b0 : ((t145.length : Int) == 2) = false := beq_eq_false_iff_ne.mpr c8
   have c8b1 : ((t145.length : Int) != 2) = true := bne_iff_ne.mpr c8
   (first | rw [c8b0] | (simp only [i64_w, i32_w]; rw [c8b0]) | skip)
   have H' := Aside0.mk H
   clear H
   obtain ⟨Ao11, co11, eo11⟩ := Kd.V_slice HO147.out
   subst eo11
   go_wp2
   repeat (go_quiet (fail); try go_wp2)
   go_meet
   case rel => exact ⟨_, (true), (by first | rfl | (simp; done) | (simp [*]; done)), H', ⟨by first | omega | exact Nat.le_refl _⟩, ⟨by repeat (first | (with_reducible first | exact HB.out | apply below_alloc | apply pw_below_drewN | apply below_drew1) | exact HB.out)⟩⟩
 case rest =>
  clear HC3
  try clear p1
  try clear q1
  try clear hx1
  try clear qi1
  try clear p2
  try clear c6
  try clear c8
  try clear c8b0
  try clear c8b1
  try clear c9
  try clear c9b0
  try clear c9b1
  try clear hx148_0
  try clear p148
  try clear q148
  obtain ⟨kq, x17_2, rfl, HA, HJ2, HB⟩ := hcut
  cases kq with
  | zero => exact absurd HA.out (by simp [barrowlaw02_GoodsSorts.j0])
  | succ kj2 =>
   have H := HA.out
   clear HA
   simp only [barrowlaw02_GoodsSorts.j0] at H
   by_cases c12 : x17_2 = true
   ·subst c12
    have H1 : (some false) = some r := by rw [if_pos rfl] at H; exact H
    clear H
    have H := H1
    clear H1
    obtain rfl := Option.some.inj H
    go_wp2
    repeat (go_quiet (fail); try go_wp2)
    go_ret
    exact ⟨by first | rfl | (simp [errW_none, errW_some] <;> rfl) | (simp [*, errW_none, errW_some] <;> rfl), by repeat (first | (with_reducible first | exact HB.out | apply below_alloc | apply pw_below_drewN | apply below_drew1) | exact HB.out)⟩
   ·replace c12 := Bool.eq_false_iff.mpr c12
    subst c12
    have H1 : ((barrowref02_Sort.f kj2 l0).bind fun t149 => ((goods_Sort.f l0).bind fun t152 => (if (t152.length : Int) = (t149.length : Int) then (barrowlaw02_GoodsSorts.l0 kj2 t149 t152 0) else (some false)))) = some r := by rw [if_neg (show ¬ (false = true) by decide)] at H; exact H
    clear H
    have H := H1
    clear H1
    replace H := Option.bind_eq_some_iff.mp H
    obtain ⟨t149, A130, H⟩ := H
    replace H : ((goods_Sort.f l0).bind fun t152 => (if (t152.length : Int) = (t149.length : Int) then (barrowlaw02_GoodsSorts.l0 kj2 t149 t152 0) else (some false))) = some r := H
    have A13 := Aside0.mk A130
    clear A130
    replace H := Option.bind_eq_some_iff.mp H
    obtain ⟨t152, A140, H⟩ := H
    replace H : (if (t152.length : Int) = (t149.length : Int) then (barrowlaw02_GoodsSorts.l0 kj2 t149 t152 0) else (some false)) = some r := H
    have A14 := Aside0.mk A140
    clear A140
    by_cases c15 : (t152.length : Int) = (t149.length : Int)
    ·rw [if_pos c15] at H
     have c15b0 : ((t152.length : Int) == (t149.length : Int)) = true := beq_iff_eq.mpr c15
     have c15b1 : ((t152.length : Int) != (t149.length : Int)) = false := bne_eq_false_iff_eq.mpr c15
     have c15b2 : (t152.length == t149.length) = true := by first | simpa using c15 | (simp at c15 ⊢; omega)
     clear c15
     have H' := Aside0.mk H
     clear H
     go_wp2_with (first | (go_at_call 14; (with_reducible refine (barrowref02_Sort.calls kj2 _ _ l0 t149 _ ?side1 ?side2 A13.out).mono ?_); (case side1 => repeat (first | exact (Kd.C_below HR0.out HB.out) | (with_reducible refine Kd.C_alloc ?_ _) | (with_reducible refine Kd.C_drewN ?_ _) | (with_reducible refine Kd.C_drew ?_))); (case side2 => exact HC0.out); rintro e w16 ⟨v150, rfl, ho0, hb⟩; have n0_ := Aside0.mk (Kd.R_lower ho0 (below_size (by repeat (first | (with_reducible first | exact HB.out | apply below_alloc | apply pw_below_drewN | apply below_drew1) | exact HB.out)))); have n1_ := Aside0.mk (below_step (by repeat (first | (with_reducible first | exact HB.out | apply below_alloc | apply pw_below_drewN | apply below_drew1) | exact HB.out)) hb); clear HB; have HO151 := n0_; have HB := n1_; clear n0_ n1_; (try clear hb); (try clear hb2); (try clear hk); (try clear hi); (try clear ho0)) | (go_at_call 13; (with_reducible refine (goods_Sort.calls _ _ l0 t152 _ ?side1 ?side2 A14.out).mono ?_); (case side1 => repeat (first | exact (Kd.C_below HR0.out HB.out) | (with_reducible refine Kd.C_alloc ?_ _) | (with_reducible refine Kd.C_drewN ?_ _) | (with_reducible refine Kd.C_drew ?_))); (case side2 => exact HC0.out); rintro e w17 ⟨v153, rfl, ho0, hb⟩; have n0_ := Aside0.mk (Kd.R_below (by (with_reducible repeat (first | apply Kd.R_alloc | apply Kd.R_drewN | apply Kd.R_drew)); exact HO151.out) hb); have n1_ := Aside0.mk (Kd.V_lower (Kd.V_mono (ok' := fun k_ => some k_ ≠ (v150 : Value).ownBlock) ho0 (fun k_ hk_ => (Kd.fresh' (Kd.R_lt (by (with_reducible repeat (first | apply Kd.R_alloc | apply Kd.R_drewN | apply Kd.R_drew)); exact HO151.out)) k_ hk_.2.1))) (below_size (by repeat (first | (with_reducible first | exact HB.out | apply below_alloc | apply pw_below_drewN | apply below_drew1) | exact HB.out)))); have n2_ := Aside0.mk (below_step (by repeat (first | (with_reducible first | exact HB.out | apply below_alloc | apply pw_below_drewN | apply below_drew1) | exact HB.out)) hb); clear HO151; clear HB; have HO151 := n0_; have HO154 := n1_; have HB := n2_; clear n0_ n1_ n2_; (try clear hb); (try clear hb2); (try clear hk); (try clear hi); (try clear ho0); obtain ⟨Ao18, co18, eo18⟩ := Kd.V_slice HO154.out; subst eo18; obtain ⟨Ao19, co19, eo19⟩ := Kd.R_slice HO151.out; subst eo19))
     repeat (go_quiet (first | (go_at_call 14; (with_reducible refine (barrowref02_Sort.calls kj2 _ _ l0 t149 _ ?side1 ?side2 A13.out).mono ?_); (case side1 => repeat (first | exact (Kd.C_below HR0.out HB.out) | (with_reducible refine Kd.C_alloc ?_ _) | (with_reducible refine Kd.C_drewN ?_ _) | (with_reducible refine Kd.C_drew ?_))); (case side2 => exact HC0.out); rintro e w16 ⟨v150, rfl, ho0, hb⟩; have n0_ := Aside0.mk (Kd.R_lower ho0 (below_size (by repeat (first | (with_reducible first | exact HB.out | apply below_alloc | apply pw_below_drewN | apply below_drew1) | exact HB.out)))); have n1_ := Aside0.mk (below_step (by repeat (first | (with_reducible first | exact HB.out | apply below_alloc | apply pw_below_drewN | apply below_drew1) | exact HB.out)) hb); clear HB; have HO151 := n0_; have HB := n1_; clear n0_ n1_; (try clear hb); (try clear hb2); (try clear hk); (try clear hi); (try clear ho0)) | (go_at_call 13; (with_reducible refine (goods_Sort.calls _ _ l0 t152 _ ?side1 ?side2 A14.out).mono ?_); (case side1 => repeat (first | exact (Kd.C_below HR0.out HB.out) | (with_reducible refine Kd.C_alloc ?_ _) | (with_reducible refine Kd.C_drewN ?_ _) | (with_reducible refine Kd.C_drew ?_))); (case side2 => exact HC0.out); rintro e w17 ⟨v153, rfl, ho0, hb⟩; have n0_ := Aside0.mk (Kd.R_below (by (with_reducible repeat (first | apply Kd.R_alloc | apply Kd.R_drewN | apply Kd.R_drew)); exact HO151.out) hb); have n1_ := Aside0.mk (Kd.V_lower (Kd.V_mono (ok' := fun k_ => some k_ ≠ (v150 : Value).ownBlock) ho0 (fun k_ hk_ => (Kd.fresh' (Kd.R_lt (by (with_reducible repeat (first | apply Kd.R_alloc | apply Kd.R_drewN | apply Kd.R_drew)); exact HO151.out)) k_ hk_.2.1))) (below_size (by repeat (first | (with_reducible first | exact HB.out | apply below_alloc | apply pw_below_drewN | apply below_drew1) | exact HB.out)))); have n2_ := Aside0.mk (below_step (by repeat (first | (with_reducible first | exact HB.out | apply below_alloc | apply pw_below_drewN | apply below_drew1) | exact HB.out)) hb); clear HO151; clear HB; have HO151 := n0_; have HO154 := n1_; have HB := n2_; clear n0_ n1_ n2_; (try clear hb); (try clear hb2); (try clear hk); (try clear hi); (try clear ho0); obtain ⟨Ao18, co18, eo18⟩ := Kd.V_slice HO154.out; subst eo18; obtain ⟨Ao19, co19, eo19⟩ := Kd.R_slice HO151.out; subst eo19)); try go_wp2_with (first | (go_at_call 14; (with_reducible refine (barrowref02_Sort.calls kj2 _ _ l0 t149 _ ?side1 ?side2 A13.out).mono ?_); (case side1 => repeat (first | exact (Kd.C_below HR0.out HB.out) | (with_reducible refine Kd.C_alloc ?_ _) | (with_reducible refine Kd.C_drewN ?_ _) | (with_reducible refine Kd.C_drew ?_))); (case side2 => exact HC0.out); rintro e w16 ⟨v150, rfl, ho0, hb⟩; have n0_ := Aside0.mk (Kd.R_lower ho0 (below_size (by repeat (first | (with_reducible first | exact HB.out | apply below_alloc | apply pw_below_drewN | apply below_drew1) | exact HB.out)))); have n1_ := Aside0.mk (below_step (by repeat (first | (with_reducible first | exact HB.out | apply below_alloc | apply pw_below_drewN | apply below_drew1) | exact HB.out)) hb); clear HB; have HO151 := n0_; have HB := n1_; clear n0_ n1_; (try clear hb); (try clear hb2); (try clear hk); (try clear hi); (try clear ho0)) | (go_at_call 13; (with_reducible refine (goods_Sort.calls _ _ l0 t152 _ ?side1 ?side2 A14.out).mono ?_); (case side1 => repeat (first | exact (Kd.C_below HR0.out HB.out) | (with_reducible refine Kd.C_alloc ?_ _) | (with_reducible refine Kd.C_drewN ?_ _) | (with_reducible refine Kd.C_drew ?_))); (case side2 => exact HC0.out); rintro e w17 ⟨v153, rfl, ho0, hb⟩; have n0_ := Aside0.mk (Kd.R_below (by (with_reducible repeat (first | apply Kd.R_alloc | apply Kd.R_drewN | apply Kd.R_drew)); exact HO151.out) hb); have n1_ := Aside0.mk (Kd.V_lower (Kd.V_mono (ok' := fun k_ => some k_ ≠ (v150 : Value).ownBlock) ho0 (fun k_ hk_ => (Kd.fresh' (Kd.R_lt (by (with_reducible repeat (first | apply Kd.R_alloc | apply Kd.R_drewN | apply Kd.R_drew)); exact HO151.out)) k_ hk_.2.1))) (below_size (by repeat (first | (with_reducible first | exact HB.out | apply below_alloc | apply pw_below_drewN | apply below_drew1) | exact HB.out)))); have n2_ := Aside0.mk (below_step (by repeat (first | (with_reducible first | exact HB.out | apply below_alloc | apply pw_below_drewN | apply below_drew1) | exact HB.out)) hb); clear HO151; clear HB; have HO151 := n0_; have HO154 := n1_; have HB := n2_; clear n0_ n1_ n2_; (try clear hb); (try clear hb2); (try clear hk); (try clear hi); (try clear ho0); obtain ⟨Ao18, co18, eo18⟩ := Kd.V_slice HO154.out; subst eo18; obtain ⟨Ao19, co19, eo19⟩ := Kd.R_slice HO151.out; subst eo19)))
     go_loopg [6] kj2 (fun kq v6 w' => ∃ (x6_2 : Int), v6 = .int .i64 x6_2 ∧ Aside0 (barrowlaw02_GoodsSorts.l0 kq t149 t152 x6_2 = some r) ∧ Aside0 (kq ≤ kj2) ∧ Aside0 (Kd.R Kd.string 9 w' w.heap.size (fun _ => True) (.slice Ao19 t149.length co19) t149) ∧ Aside0 (Kd.V Kd.string 9 w' w.heap.size (fun k_ => some k_ ≠ ((.slice Ao19 t149.length co19) : Value).ownBlock) (.slice Ao18 t152.length co18) t152) ∧ Aside0 (Below w.heap.size w w'))
     case atStart => exact ⟨(0), (by first | rfl | (simp; done) | (simp [*]; done)), H', ⟨Nat.le_refl _⟩, ⟨by (with_reducible repeat (first | apply Kd.R_alloc | apply Kd.R_drewN | apply Kd.R_drew)); exact HO151.out⟩, ⟨by (with_reducible repeat (first | apply Kd.V_alloc | apply Kd.V_drewN | apply Kd.V_drew)); exact HO154.out⟩, ⟨by repeat (first | (with_reducible first | exact HB.out | apply below_alloc | apply pw_below_drewN | apply below_drew1) | exact HB.out)⟩⟩
     case round =>
      clear H'
      try clear c1
      try clear p1
      try clear q1
      try clear hx1
      try clear qi1
      try clear p2
      try clear c6
      try clear c8
      try clear c8b0
      try clear c8b1
      try clear c9
      try clear c9b0
      try clear c9b1
      try clear c12
      try clear p14
      try clear q14
      try clear hx14
      try clear qi14
      try clear c15
      try clear c15b0
      try clear c15b1
      try clear c15b2
      try clear hx148_0
      try clear p1
      try clear p148
      try clear p2
      try clear q1
      try clear q148
      obtain ⟨x6_2, rfl, HA, HK2, HO_4, HO_5, HB⟩ := hrel
      cases gk with
      | zero => exact absurd HA.out (by simp [barrowlaw02_GoodsSorts.l0])
      | succ k2 =>
       have H := HA.out
       clear HA
       simp only [barrowlaw02_GoodsSorts.l0] at H
       by_cases c20 : x6_2 < (t152.length : Int)
       ·rw [if_pos c20] at H
        have c20b0 : decide (x6_2 < (t152.length : Int)) = true := decide_eq_true c20
        clear c20
        by_cases c21 : 0 ≤ x6_2
        ·rw [if_pos c21] at H
         have c21b0 : decide (0 ≤ x6_2) = true := decide_eq_true c21
         clear c21
         by_cases c22 : x6_2 < (t149.length : Int)
         ·rw [if_pos c22] at H
          have c22b0 : decide (x6_2 < (t149.length : Int)) = true := decide_eq_true c22
          clear c22
          by_cases c23 : (rdOf ByteArray.empty t152 x6_2).toList = (rdOf ByteArray.empty t149 x6_2).toList
          ·rw [if_pos c23] at H
           have c23b0 : ((rdOf ByteArray.empty t152 x6_2).toList == (rdOf ByteArray.empty t149 x6_2).toList) = true := beq_iff_eq.mpr c23
           have c23b1 : ((rdOf ByteArray.empty t152 x6_2).toList != (rdOf ByteArray.empty t149 x6_2).toList) = false := bne_eq_false_iff_eq.mpr c23
           clear c23
           have H' := Aside0.mk H
           clear H
           have p155 : 0 ≤ (x6_2 : Int) := of_decide_eq_true (by first | (with_reducible assumption) | assumption)
           have q155 : x6_2 < (t152.length : Int) := of_decide_eq_true (by first | (with_reducible assumption) | assumption)
           obtain ⟨ad155, e155, hx155_0⟩ := Kd.at_string (Kd.V_reads' HO_5.out).2.2 x6_2 p155 q155
           cases e155
           replace p155 := eq_true p155
           replace q155 := eq_true q155
           have p156 : 0 ≤ (x6_2 : Int) := of_decide_eq_true (by first | (with_reducible assumption) | assumption)
           have q156 : x6_2 < (t149.length : Int) := of_decide_eq_true (by first | (with_reducible assumption) | assumption)
           obtain ⟨ad156, e156, hx156_0⟩ := Kd.at_string (Kd.R_reads' HO_4.out).2.2 x6_2 p156 q156
           cases e156
           replace p156 := eq_true p156
           replace q156 := eq_true q156
           go_wp2
           repeat (go_quiet (fail); try go_wp2)
           go_roundg k2
           case measure => have := HJ2.out; have := HK2.out; omega
           case rel => exact ⟨(wrap64 (x6_2 + 1)), (by first | rfl | (simp; done) | (simp [*]; done)), H', ⟨by have := HJ2.out; have := HK2.out; omega⟩, ⟨by (with_reducible repeat (first | apply Kd.R_alloc | apply Kd.R_drewN | apply Kd.R_drew)); exact HO_4.out⟩, ⟨by (with_reducible repeat (first | apply Kd.V_alloc | apply Kd.V_drewN | apply Kd.V_drew)); exact HO_5.out⟩, ⟨by repeat (first | (with_reducible first | exact HB.out | apply below_alloc | apply pw_below_drewN | apply below_drew1) | exact HB.out)⟩⟩
          ·rw [if_neg c23] at H
           have c23b0 : ((rdOf ByteArray.empty t152 x6_2).toList == (rdOf ByteArray.empty t149 x6_2).toList) = false := beq_eq_false_iff_ne.mpr c23
           have c23b1 : ((rdOf ByteArray.empty t152 x6_2).toList != (rdOf ByteArray.empty t149 x6_2).toList) = true := bne_iff_ne.mpr c23
           obtain rfl := Option.some.inj H
           have p155 : 0 ≤ (x6_2 : Int) := of_decide_eq_true (by first | (with_reducible assumption) | assumption)
           have q155 : x6_2 < (t152.length : Int) := of_decide_eq_true (by first | (with_reducible assumption) | assumption)
           obtain ⟨ad155, e155, hx155_0⟩ := Kd.at_string (Kd.V_reads' HO_5.out).2.2 x6_2 p155 q155
           cases e155
           replace p155 := eq_true p155
           replace q155 := eq_true q155
           have p156 : 0 ≤ (x6_2 : Int) := of_decide_eq_true (by first | (with_reducible assumption) | assumption)
           have q156 : x6_2 < (t149.length : Int) := of_decide_eq_true (by first | (with_reducible assumption) | assumption)
           obtain ⟨ad156, e156, hx156_0⟩ := Kd.at_string (Kd.R_reads' HO_4.out).2.2 x6_2 p156 q156
           cases e156
           replace p156 := eq_true p156
           replace q156 := eq_true q156
           go_wp2
           repeat (go_quiet (fail); try go_wp2)
           go_ret
           exact ⟨by first | rfl | (simp [errW_none, errW_some] <;> rfl) | (simp [*, errW_none, errW_some] <;> rfl), by repeat (first | (with_reducible first | exact HB.out | apply below_alloc | apply pw_below_drewN | apply below_drew1) | exact HB.out)⟩
         ·rw [if_neg c22] at H
          exact absurd H (by simp)
        ·rw [if_neg c21] at H
         exact absurd H (by simp)
       ·rw [if_neg c20] at H
        have c20b0 : decide (x6_2 < (t152.length : Int)) = false := decide_eq_false c20
        clear c20
        obtain rfl := Option.some.inj H
        go_wp2
        repeat (go_quiet (fail); try go_wp2)
        go_ret
        exact ⟨by first | rfl | (simp [errW_none, errW_some] <;> rfl) | (simp [*, errW_none, errW_some] <;> rfl), by repeat (first | (with_reducible first | exact HB.out | apply below_alloc | apply pw_below_drewN | apply below_drew1) | exact HB.out)⟩
    ·rw [if_neg c15] at H
     have c15b0 : ((t152.length : Int) == (t149.length : Int)) = false := beq_eq_false_iff_ne.mpr c15
     have c15b1 : ((t152.length : Int) != (t149.length : Int)) = true := bne_iff_ne.mpr c15
     have c15b2 : (t152.length == t149.length) = false := by first | simpa using c15 | (simp at c15 ⊢; omega)
     obtain rfl := Option.some.inj H
     go_wp2_with (first | (go_at_call 14; (with_reducible refine (barrowref02_Sort.calls kj2 _ _ l0 t149 _ ?side1 ?side2 A13.out).mono ?_); (case side1 => repeat (first | exact (Kd.C_below HR0.out HB.out) | (with_reducible refine Kd.C_alloc ?_ _) | (with_reducible refine Kd.C_drewN ?_ _) | (with_reducible refine Kd.C_drew ?_))); (case side2 => exact HC0.out); rintro e w24 ⟨v150, rfl, ho0, hb⟩; have n0_ := Aside0.mk (Kd.R_lower ho0 (below_size (by repeat (first | (with_reducible first | exact HB.out | apply below_alloc | apply pw_below_drewN | apply below_drew1) | exact HB.out)))); have n1_ := Aside0.mk (below_step (by repeat (first | (with_reducible first | exact HB.out | apply below_alloc | apply pw_below_drewN | apply below_drew1) | exact HB.out)) hb); clear HB; have HO151 := n0_; have HB := n1_; clear n0_ n1_; (try clear hb); (try clear hb2); (try clear hk); (try clear hi); (try clear ho0)) | (go_at_call 13; (with_reducible refine (goods_Sort.calls _ _ l0 t152 _ ?side1 ?side2 A14.out).mono ?_); (case side1 => repeat (first | exact (Kd.C_below HR0.out HB.out) | (with_reducible refine Kd.C_alloc ?_ _) | (with_reducible refine Kd.C_drewN ?_ _) | (with_reducible refine Kd.C_drew ?_))); (case side2 => exact HC0.out); rintro e w25 ⟨v153, rfl, ho0, hb⟩; have n0_ := Aside0.mk (Kd.R_below (by (with_reducible repeat (first | apply Kd.R_alloc | apply Kd.R_drewN | apply Kd.R_drew)); exact HO151.out) hb); have n1_ := Aside0.mk (Kd.V_lower (Kd.V_mono (ok' := fun k_ => some k_ ≠ (v150 : Value).ownBlock) ho0 (fun k_ hk_ => (Kd.fresh' (Kd.R_lt (by (with_reducible repeat (first | apply Kd.R_alloc | apply Kd.R_drewN | apply Kd.R_drew)); exact HO151.out)) k_ hk_.2.1))) (below_size (by repeat (first | (with_reducible first | exact HB.out | apply below_alloc | apply pw_below_drewN | apply below_drew1) | exact HB.out)))); have n2_ := Aside0.mk (below_step (by repeat (first | (with_reducible first | exact HB.out | apply below_alloc | apply pw_below_drewN | apply below_drew1) | exact HB.out)) hb); clear HO151; clear HB; have HO151 := n0_; have HO154 := n1_; have HB := n2_; clear n0_ n1_ n2_; (try clear hb); (try clear hb2); (try clear hk); (try clear hi); (try clear ho0); obtain ⟨Ao26, co26, eo26⟩ := Kd.V_slice HO154.out; subst eo26; obtain ⟨Ao27, co27, eo27⟩ := Kd.R_slice HO151.out; subst eo27))
     repeat (go_quiet (first | (go_at_call 14; (with_reducible refine (barrowref02_Sort.calls kj2 _ _ l0 t149 _ ?side1 ?side2 A13.out).mono ?_); (case side1 => repeat (first | exact (Kd.C_below HR0.out HB.out) | (with_reducible refine Kd.C_alloc ?_ _) | (with_reducible refine Kd.C_drewN ?_ _) | (with_reducible refine Kd.C_drew ?_))); (case side2 => exact HC0.out); rintro e w24 ⟨v150, rfl, ho0, hb⟩; have n0_ := Aside0.mk (Kd.R_lower ho0 (below_size (by repeat (first | (with_reducible first | exact HB.out | apply below_alloc | apply pw_below_drewN | apply below_drew1) | exact HB.out)))); have n1_ := Aside0.mk (below_step (by repeat (first | (with_reducible first | exact HB.out | apply below_alloc | apply pw_below_drewN | apply below_drew1) | exact HB.out)) hb); clear HB; have HO151 := n0_; have HB := n1_; clear n0_ n1_; (try clear hb); (try clear hb2); (try clear hk); (try clear hi); (try clear ho0)) | (go_at_call 13; (with_reducible refine (goods_Sort.calls _ _ l0 t152 _ ?side1 ?side2 A14.out).mono ?_); (case side1 => repeat (first | exact (Kd.C_below HR0.out HB.out) | (with_reducible refine Kd.C_alloc ?_ _) | (with_reducible refine Kd.C_drewN ?_ _) | (with_reducible refine Kd.C_drew ?_))); (case side2 => exact HC0.out); rintro e w25 ⟨v153, rfl, ho0, hb⟩; have n0_ := Aside0.mk (Kd.R_below (by (with_reducible repeat (first | apply Kd.R_alloc | apply Kd.R_drewN | apply Kd.R_drew)); exact HO151.out) hb); have n1_ := Aside0.mk (Kd.V_lower (Kd.V_mono (ok' := fun k_ => some k_ ≠ (v150 : Value).ownBlock) ho0 (fun k_ hk_ => (Kd.fresh' (Kd.R_lt (by (with_reducible repeat (first | apply Kd.R_alloc | apply Kd.R_drewN | apply Kd.R_drew)); exact HO151.out)) k_ hk_.2.1))) (below_size (by repeat (first | (with_reducible first | exact HB.out | apply below_alloc | apply pw_below_drewN | apply below_drew1) | exact HB.out)))); have n2_ := Aside0.mk (below_step (by repeat (first | (with_reducible first | exact HB.out | apply below_alloc | apply pw_below_drewN | apply below_drew1) | exact HB.out)) hb); clear HO151; clear HB; have HO151 := n0_; have HO154 := n1_; have HB := n2_; clear n0_ n1_ n2_; (try clear hb); (try clear hb2); (try clear hk); (try clear hi); (try clear ho0); obtain ⟨Ao26, co26, eo26⟩ := Kd.V_slice HO154.out; subst eo26; obtain ⟨Ao27, co27, eo27⟩ := Kd.R_slice HO151.out; subst eo27)); try go_wp2_with (first | (go_at_call 14; (with_reducible refine (barrowref02_Sort.calls kj2 _ _ l0 t149 _ ?side1 ?side2 A13.out).mono ?_); (case side1 => repeat (first | exact (Kd.C_below HR0.out HB.out) | (with_reducible refine Kd.C_alloc ?_ _) | (with_reducible refine Kd.C_drewN ?_ _) | (with_reducible refine Kd.C_drew ?_))); (case side2 => exact HC0.out); rintro e w24 ⟨v150, rfl, ho0, hb⟩; have n0_ := Aside0.mk (Kd.R_lower ho0 (below_size (by repeat (first | (with_reducible first | exact HB.out | apply below_alloc | apply pw_below_drewN | apply below_drew1) | exact HB.out)))); have n1_ := Aside0.mk (below_step (by repeat (first | (with_reducible first | exact HB.out | apply below_alloc | apply pw_below_drewN | apply below_drew1) | exact HB.out)) hb); clear HB; have HO151 := n0_; have HB := n1_; clear n0_ n1_; (try clear hb); (try clear hb2); (try clear hk); (try clear hi); (try clear ho0)) | (go_at_call 13; (with_reducible refine (goods_Sort.calls _ _ l0 t152 _ ?side1 ?side2 A14.out).mono ?_); (case side1 => repeat (first | exact (Kd.C_below HR0.out HB.out) | (with_reducible refine Kd.C_alloc ?_ _) | (with_reducible refine Kd.C_drewN ?_ _) | (with_reducible refine Kd.C_drew ?_))); (case side2 => exact HC0.out); rintro e w25 ⟨v153, rfl, ho0, hb⟩; have n0_ := Aside0.mk (Kd.R_below (by (with_reducible repeat (first | apply Kd.R_alloc | apply Kd.R_drewN | apply Kd.R_drew)); exact HO151.out) hb); have n1_ := Aside0.mk (Kd.V_lower (Kd.V_mono (ok' := fun k_ => some k_ ≠ (v150 : Value).ownBlock) ho0 (fun k_ hk_ => (Kd.fresh' (Kd.R_lt (by (with_reducible repeat (first | apply Kd.R_alloc | apply Kd.R_drewN | apply Kd.R_drew)); exact HO151.out)) k_ hk_.2.1))) (below_size (by repeat (first | (with_reducible first | exact HB.out | apply below_alloc | apply pw_below_drewN | apply below_drew1) | exact HB.out)))); have n2_ := Aside0.mk (below_step (by repeat (first | (with_reducible first | exact HB.out | apply below_alloc | apply pw_below_drewN | apply below_drew1) | exact HB.out)) hb); clear HO151; clear HB; have HO151 := n0_; have HO154 := n1_; have HB := n2_; clear n0_ n1_ n2_; (try clear hb); (try clear hb2); (try clear hk); (try clear hi); (try clear ho0); obtain ⟨Ao26, co26, eo26⟩ := Kd.V_slice HO154.out; subst eo26; obtain ⟨Ao27, co27, eo27⟩ := Kd.R_slice HO151.out; subst eo27)))
     go_ret
     exact ⟨by first | rfl | (simp [errW_none, errW_some] <;> rfl) | (simp [*, errW_none, errW_some] <;> rfl), by repeat (first | (with_reducible first | exact HB.out | apply below_alloc | apply pw_below_drewN | apply below_drew1) | exact HB.out)⟩

end Go.Proofs.YtmicghhmbojkfaaDoor.S
