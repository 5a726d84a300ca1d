-- PRINTED by print.py (a twelfth state) out of the translation. Not trusted: Lean checks it.
import Derived.Test.YteldhpneegccjaaGx0
import Derived.Test.YteldhpneegccjaaGx11
import Derived.Test.YteldhpneegccjaaGx12
import Derived.Test.YteldhpneegccjaaGx24
import Derived.Test.YteldhpneegccjaaGx41
import Derived.Test.YteldhpneegccjaaHas
namespace Go.Proofs.Yteldhpneegccjaa.G
open Go.RowKit Go.Proofs.YteldhpneegccjaaW.PrintWords Go.Proofs.YteldhpneegccjaaW.PrintLast Go.Proofs.YteldhpneegccjaaW.PrintMore
attribute [local go_sem] max2_int min2_int max_two min_two max_three min_three max_four min_four   -- for this text's walks alone
set_option linter.unusedVariables false
set_option linter.unusedSimpArgs false

/-! ### barrowlaw01_SpanGalois: function 13 -/
mutual
def barrowlaw01_SpanGalois.j0 : Nat → List (S26) → Int → Int → Bool → Option (Bool)
  | 0, _, _, _, _ => none
  | k + 1, x0, x1, x2, x21 => if x21 = true then (some false) else ((span_Size.f k x0).bind fun t655 => ((span_Pick.f k x0 x2).bind fun t656 => (if x2 ≥ 1 then (barrowlaw01_SpanGalois.j1 k x0 x1 x2 t655 t656 (decide (x2 ≤ t655))) else (barrowlaw01_SpanGalois.j1 k x0 x1 x2 t655 t656 false))))
def barrowlaw01_SpanGalois.j1 : Nat → List (S26) → Int → Int → Int → Int → Bool → Option (Bool)
  | 0, _, _, _, _, _, _ => none
  | k + 1, x0, x1, x2, x7, x8, x33 => if x33 = true then ((span_Has.f x0 x8).bind fun t657 => (if t657 = true then ((span_Rank.f k x0 x8).bind fun t658 => (if t658 = x2 then ((span_Rank.f k x0 (wrap64 (x8 - 1))).bind fun t659 => (if t659 = (wrap64 (x2 - 1)) then (barrowlaw01_SpanGalois.j2 k x0 x1 x7) else (some false))) else (some false))) else (some false))) else (if x8 = 0 then (barrowlaw01_SpanGalois.j2 k x0 x1 x7) else (some false))
def barrowlaw01_SpanGalois.j2 : Nat → List (S26) → Int → Int → Option (Bool)
  | 0, _, _, _ => none
  | k + 1, x0, x1, x7 => (span_Rank.f k x0 x1).bind fun t660 => (if t660 < 0 then (barrowlaw01_SpanGalois.j3 k x0 x1 t660 true) else (barrowlaw01_SpanGalois.j3 k x0 x1 t660 (decide (t660 > x7))))
def barrowlaw01_SpanGalois.j3 : Nat → List (S26) → Int → Int → Bool → Option (Bool)
  | 0, _, _, _, _ => none
  | k + 1, x0, x1, x9, x65 => if x65 = true then (some false) else ((span_Pick.f k x0 x9).bind fun t661 => (if t661 > x1 then (barrowlaw01_SpanGalois.j4 k x0 x1 x9 t661 (decide (x9 > 0))) else (barrowlaw01_SpanGalois.j4 k x0 x1 x9 t661 false)))
def barrowlaw01_SpanGalois.j4 : Nat → List (S26) → Int → Int → Int → Bool → Option (Bool)
  | 0, _, _, _, _, _ => none
  | k + 1, x0, x1, x9, x10, x75 => if x75 = true then (some false) else ((span_Pick.f k x0 (wrap64 (x9 + 1))).bind fun t662 => (if t662 = 0 then (some true) else (if t662 > x1 then ((span_First.f k x0 (wrap64 (x10 + 1))).bind fun t663 => (some (t663 == t662))) else (some false))))
end
def barrowlaw01_SpanGalois.f (k : Nat) (l0 : List (S26)) (a1 : Int) (a2 : Int) : Option (Bool) := (span_Pick.f k (([(⟨4, 6⟩ : S26)] : List (S26))) 2).bind fun t650 => (if t650 = 5 then ((span_Rank.f k (([(⟨4, 6⟩ : S26)] : List (S26))) 5).bind fun t654 => (barrowlaw01_SpanGalois.j0 k l0 a1 a2 (t654 != 2))) else (barrowlaw01_SpanGalois.j0 k l0 a1 a2 true))
theorem barrowlaw01_SpanGalois.mono_l : ∀ k, (∀ y0 y1 y2 y3, LeO (barrowlaw01_SpanGalois.j0 k y0 y1 y2 y3) (barrowlaw01_SpanGalois.j0 (k + 1) y0 y1 y2 y3)) ∧ (∀ y0 y1 y2 y3 y4 y5, LeO (barrowlaw01_SpanGalois.j1 k y0 y1 y2 y3 y4 y5) (barrowlaw01_SpanGalois.j1 (k + 1) y0 y1 y2 y3 y4 y5)) ∧ (∀ y0 y1 y2, LeO (barrowlaw01_SpanGalois.j2 k y0 y1 y2) (barrowlaw01_SpanGalois.j2 (k + 1) y0 y1 y2)) ∧ (∀ y0 y1 y2 y3, LeO (barrowlaw01_SpanGalois.j3 k y0 y1 y2 y3) (barrowlaw01_SpanGalois.j3 (k + 1) y0 y1 y2 y3)) ∧ (∀ y0 y1 y2 y3 y4, LeO (barrowlaw01_SpanGalois.j4 k y0 y1 y2 y3 y4) (barrowlaw01_SpanGalois.j4 (k + 1) y0 y1 y2 y3 y4))
  | 0 => ⟨fun _ _ _ _ r h => by simp [barrowlaw01_SpanGalois.j0] at h, fun _ _ _ _ _ _ r h => by simp [barrowlaw01_SpanGalois.j1] at h, fun _ _ _ r h => by simp [barrowlaw01_SpanGalois.j2] at h, fun _ _ _ _ r h => by simp [barrowlaw01_SpanGalois.j3] at h, fun _ _ _ _ _ r h => by simp [barrowlaw01_SpanGalois.j4] at h⟩
  | k + 1 => by
    obtain ⟨ih0, ih1, ih2, ih3, ih4⟩ := barrowlaw01_SpanGalois.mono_l k
    refine ⟨?_, ?_, ?_, ?_, ?_⟩
    · intro y0 y1 y2 y3
      unfold barrowlaw01_SpanGalois.j0
      repeat' first
      | (with_reducible exact ih0 _ _ _ _)
      | (with_reducible exact ih1 _ _ _ _ _ _)
      | (with_reducible exact ih2 _ _ _)
      | (with_reducible exact ih3 _ _ _ _)
      | (with_reducible exact ih4 _ _ _ _ _)
      | (with_reducible exact span_First.mono _ _ _)
      | (with_reducible exact span_Pick.mono _ _ _)
      | (with_reducible exact span_Rank.mono _ _ _)
      | (with_reducible exact span_Size.mono _ _)
      | (with_reducible exact LeO.refl _)
      | (with_reducible exact LeO.none _)
      | (with_reducible refine LeO.ite ?_ ?_)
      | (with_reducible refine LeO.bind ?_ (fun _ => ?_))
      | exact ih0 _ _ _ _
      | exact ih1 _ _ _ _ _ _
      | exact ih2 _ _ _
      | exact ih3 _ _ _ _
      | exact ih4 _ _ _ _ _
      | exact span_First.mono _ _ _
      | exact span_Pick.mono _ _ _
      | exact span_Rank.mono _ _ _
      | exact span_Size.mono _ _
      | exact LeO.none _
      | refine LeO.ite ?_ ?_
      | refine LeO.bind ?_ (fun _ => ?_)
    · intro y0 y1 y2 y3 y4 y5
      unfold barrowlaw01_SpanGalois.j1
      repeat' first
      | (with_reducible exact ih0 _ _ _ _)
      | (with_reducible exact ih1 _ _ _ _ _ _)
      | (with_reducible exact ih2 _ _ _)
      | (with_reducible exact ih3 _ _ _ _)
      | (with_reducible exact ih4 _ _ _ _ _)
      | (with_reducible exact span_First.mono _ _ _)
      | (with_reducible exact span_Pick.mono _ _ _)
      | (with_reducible exact span_Rank.mono _ _ _)
      | (with_reducible exact span_Size.mono _ _)
      | (with_reducible exact LeO.refl _)
      | (with_reducible exact LeO.none _)
      | (with_reducible refine LeO.ite ?_ ?_)
      | (with_reducible refine LeO.bind ?_ (fun _ => ?_))
      | exact ih0 _ _ _ _
      | exact ih1 _ _ _ _ _ _
      | exact ih2 _ _ _
      | exact ih3 _ _ _ _
      | exact ih4 _ _ _ _ _
      | exact span_First.mono _ _ _
      | exact span_Pick.mono _ _ _
      | exact span_Rank.mono _ _ _
      | exact span_Size.mono _ _
      | exact LeO.none _
      | refine LeO.ite ?_ ?_
      | refine LeO.bind ?_ (fun _ => ?_)
    · intro y0 y1 y2
      unfold barrowlaw01_SpanGalois.j2
      repeat' first
      | (with_reducible exact ih0 _ _ _ _)
      | (with_reducible exact ih1 _ _ _ _ _ _)
      | (with_reducible exact ih2 _ _ _)
      | (with_reducible exact ih3 _ _ _ _)
      | (with_reducible exact ih4 _ _ _ _ _)
      | (with_reducible exact span_First.mono _ _ _)
      | (with_reducible exact span_Pick.mono _ _ _)
      | (with_reducible exact span_Rank.mono _ _ _)
      | (with_reducible exact span_Size.mono _ _)
      | (with_reducible exact LeO.refl _)
      | (with_reducible exact LeO.none _)
      | (with_reducible refine LeO.ite ?_ ?_)
      | (with_reducible refine LeO.bind ?_ (fun _ => ?_))
      | exact ih0 _ _ _ _
      | exact ih1 _ _ _ _ _ _
      | exact ih2 _ _ _
      | exact ih3 _ _ _ _
      | exact ih4 _ _ _ _ _
      | exact span_First.mono _ _ _
      | exact span_Pick.mono _ _ _
      | exact span_Rank.mono _ _ _
      | exact span_Size.mono _ _
      | exact LeO.none _
      | refine LeO.ite ?_ ?_
      | refine LeO.bind ?_ (fun _ => ?_)
    · intro y0 y1 y2 y3
      unfold barrowlaw01_SpanGalois.j3
      repeat' first
      | (with_reducible exact ih0 _ _ _ _)
      | (with_reducible exact ih1 _ _ _ _ _ _)
      | (with_reducible exact ih2 _ _ _)
      | (with_reducible exact ih3 _ _ _ _)
      | (with_reducible exact ih4 _ _ _ _ _)
      | (with_reducible exact span_First.mono _ _ _)
      | (with_reducible exact span_Pick.mono _ _ _)
      | (with_reducible exact span_Rank.mono _ _ _)
      | (with_reducible exact span_Size.mono _ _)
      | (with_reducible exact LeO.refl _)
      | (with_reducible exact LeO.none _)
      | (with_reducible refine LeO.ite ?_ ?_)
      | (with_reducible refine LeO.bind ?_ (fun _ => ?_))
      | exact ih0 _ _ _ _
      | exact ih1 _ _ _ _ _ _
      | exact ih2 _ _ _
      | exact ih3 _ _ _ _
      | exact ih4 _ _ _ _ _
      | exact span_First.mono _ _ _
      | exact span_Pick.mono _ _ _
      | exact span_Rank.mono _ _ _
      | exact span_Size.mono _ _
      | exact LeO.none _
      | refine LeO.ite ?_ ?_
      | refine LeO.bind ?_ (fun _ => ?_)
    · intro y0 y1 y2 y3 y4
      unfold barrowlaw01_SpanGalois.j4
      repeat' first
      | (with_reducible exact ih0 _ _ _ _)
      | (with_reducible exact ih1 _ _ _ _ _ _)
      | (with_reducible exact ih2 _ _ _)
      | (with_reducible exact ih3 _ _ _ _)
      | (with_reducible exact ih4 _ _ _ _ _)
      | (with_reducible exact span_First.mono _ _ _)
      | (with_reducible exact span_Pick.mono _ _ _)
      | (with_reducible exact span_Rank.mono _ _ _)
      | (with_reducible exact span_Size.mono _ _)
      | (with_reducible exact LeO.refl _)
      | (with_reducible exact LeO.none _)
      | (with_reducible refine LeO.ite ?_ ?_)
      | (with_reducible refine LeO.bind ?_ (fun _ => ?_))
      | exact ih0 _ _ _ _
      | exact ih1 _ _ _ _ _ _
      | exact ih2 _ _ _
      | exact ih3 _ _ _ _
      | exact ih4 _ _ _ _ _
      | exact span_First.mono _ _ _
      | exact span_Pick.mono _ _ _
      | exact span_Rank.mono _ _ _
      | exact span_Size.mono _ _
      | exact LeO.none _
      | refine LeO.ite ?_ ?_
      | refine LeO.bind ?_ (fun _ => ?_)
theorem barrowlaw01_SpanGalois.mono : ∀ a0 a1 a2 k, LeO (barrowlaw01_SpanGalois.f k a0 a1 a2) (barrowlaw01_SpanGalois.f (k + 1) a0 a1 a2) := by
  intro a0 a1 a2 k
  obtain ⟨ih0, ih1, ih2, ih3, ih4⟩ := barrowlaw01_SpanGalois.mono_l k
  unfold barrowlaw01_SpanGalois.f
  repeat' first
      | (with_reducible exact ih0 _ _ _ _)
      | (with_reducible exact ih1 _ _ _ _ _ _)
      | (with_reducible exact ih2 _ _ _)
      | (with_reducible exact ih3 _ _ _ _)
      | (with_reducible exact ih4 _ _ _ _ _)
      | (with_reducible exact span_First.mono _ _ _)
      | (with_reducible exact span_Pick.mono _ _ _)
      | (with_reducible exact span_Rank.mono _ _ _)
      | (with_reducible exact span_Size.mono _ _)
      | (with_reducible exact LeO.refl _)
      | (with_reducible exact LeO.none _)
      | (with_reducible refine LeO.ite ?_ ?_)
      | (with_reducible refine LeO.bind ?_ (fun _ => ?_))
      | exact ih0 _ _ _ _
      | exact ih1 _ _ _ _ _ _
      | exact ih2 _ _ _
      | exact ih3 _ _ _ _
      | exact ih4 _ _ _ _ _
      | exact span_First.mono _ _ _
      | exact span_Pick.mono _ _ _
      | exact span_Rank.mono _ _ _
      | exact span_Size.mono _ _
      | exact LeO.none _
      | refine LeO.ite ?_ ?_
      | refine LeO.bind ?_ (fun _ => ?_)
set_option maxHeartbeats 8000000 in
set_option maxRecDepth 100000 in
theorem barrowlaw01_SpanGalois.calls (k : Nat) (A0 : Option Addr) (c0 : Nat) (l0 : List (S26)) (a1 : Int) (a2 : Int) (r : Bool) (w : World) (hr0 : Kd.C k26 w A0 l0.length l0) (hc0 : l0.length ≤ c0) (h : barrowlaw01_SpanGalois.f k l0 a1 a2 = some r) :
    Calls Try.prog 13 #[.slice A0 l0.length c0, .int .i64 a1, .int .i64 a2] w fun e w' => e = .returned (.bool r) ∧ Below w.heap.size w w' := by
  have hu26 := Try.underlying26
  have HR0 := Aside0.mk hr0
  have HC0 := Aside0.mk hc0
  clear hr0 hc0
  have HB := Aside0.mk (Below.refl w.heap.size w)
  have H : ((span_Pick.f k (([(⟨4, 6⟩ : S26)] : List (S26))) 2).bind fun t650 => (if t650 = 5 then ((span_Rank.f k (([(⟨4, 6⟩ : S26)] : List (S26))) 5).bind fun t654 => (barrowlaw01_SpanGalois.j0 k l0 a1 a2 (t654 != 2))) else (barrowlaw01_SpanGalois.j0 k l0 a1 a2 true))) = some r := h
  clear h
  have HC4 := Aside0.mk H
  clear H
  go_enter Try.func13, Try.ntmps13
  go_upto_region 1 with (fail)
  go_cut [21] (fun v21 wc => ∃ (kq : Nat) (x21_3 : Bool), v21 = .bool x21_3 ∧ Aside0 (barrowlaw01_SpanGalois.j0 kq l0 a1 a2 x21_3 = some r) ∧ Aside0 (kq ≤ k) ∧ Aside0 (Below w.heap.size w wc))
  case first =>
    have H := HC4.out
    clear HC4
    obtain ⟨y647, hy647⟩ : ∃ y_ : List (S26), y_ = (([(⟨4, 6⟩ : S26)] : List (S26))) := ⟨_, rfl⟩
    replace H : ((span_Pick.f k y647 2).bind fun t650 => (if t650 = 5 then ((span_Rank.f k (([(⟨4, 6⟩ : S26)] : List (S26))) 5).bind fun t654 => (barrowlaw01_SpanGalois.j0 k l0 a1 a2 (t654 != 2))) else (barrowlaw01_SpanGalois.j0 k l0 a1 a2 true))) = some r := by first | (rw [hy647]; with_reducible exact H) | (have H2_ := (Option.bind_some _ _).symm.trans H; rw [hy647]; with_reducible exact H2_) | (have H2_ := (Option.bind_some _ _).symm.trans H; with_reducible exact H2_) | with_reducible exact H | (rw [hy647]; exact H) | exact H
    have Ny647 := Aside0.mk hy647
    clear hy647
    replace H := Option.bind_eq_some_iff.mp H
    obtain ⟨t650, A50, H⟩ := H
    replace H : (if t650 = 5 then ((span_Rank.f k (([(⟨4, 6⟩ : S26)] : List (S26))) 5).bind fun t654 => (barrowlaw01_SpanGalois.j0 k l0 a1 a2 (t654 != 2))) else (barrowlaw01_SpanGalois.j0 k l0 a1 a2 true)) = some r := H
    have A5 := Aside0.mk A50
    clear A50
    by_cases c6 : t650 = 5
    · rw [if_pos c6] at H
      have c6b0 : (t650 == 5) = true := beq_iff_eq.mpr c6
      have c6b1 : (t650 != 5) = false := bne_eq_false_iff_eq.mpr c6
      clear c6
      (first | rw [c6b0] | (simp only [i64_w, i32_w]; rw [c6b0]) | skip)
      obtain ⟨y651, hy651⟩ : ∃ y_ : List (S26), y_ = (([(⟨4, 6⟩ : S26)] : List (S26))) := ⟨_, rfl⟩
      replace H : ((span_Rank.f k y651 5).bind fun t654 => (barrowlaw01_SpanGalois.j0 k l0 a1 a2 (t654 != 2))) = some r := by first | (rw [hy651]; with_reducible exact H) | (have H2_ := (Option.bind_some _ _).symm.trans H; rw [hy651]; with_reducible exact H2_) | (have H2_ := (Option.bind_some _ _).symm.trans H; with_reducible exact H2_) | with_reducible exact H | (rw [hy651]; exact H) | exact H
      have Ny651 := Aside0.mk hy651
      clear hy651
      replace H := Option.bind_eq_some_iff.mp H
      obtain ⟨t654, A70, H⟩ := H
      replace H : (barrowlaw01_SpanGalois.j0 k l0 a1 a2 (t654 != 2)) = some r := H
      have A7 := Aside0.mk A70
      clear A70
      have H' := Aside0.mk H
      clear H
      go_wp2_with (first | ((with_reducible refine gate_dst (N := 13) rfl ?_); (try (refine gate_guard (by rfl) ?_; dsimp only)); refine Kd.R_lit k26 _ 26 ?hg (N := 13) ?hd (xs := ([(⟨4, 6⟩ : S26)] : List (S26))) (inner := [.int .i64 4, .int .i64 6]) (ok := fun _ => True) (okp := fun _ => True) ?hr ?hp (fun _ hk => hk) trivial (Below.refl _ _) (Nat.le_refl _) (by simp) ?_; (case hd => rfl); (case hg => rfl); (case hr => first | (go_simp; done) | (go_simp; rfl)); (case hp => exact (Reps.c2 (show Kd.M k26 _ _ _ (⟨4, 6⟩ : S26) [.int .i64 4, .int .i64 6] from (k26_mkM _ _ _ (⟨4, 6⟩ : S26) )) (Reps.none _ _))); intro v648 w8 ho9 hb hg_ hnew_; clear hg_ hnew_; (first | rw [← Ny647.out] at ho9 | (simp only [Int.reduceToNat] at ho9; rw [← Ny647.out] at ho9)); have n0_ := Aside0.mk (Kd.R_lower ho9 (below_size (by repeat (first | (with_reducible first | exact HB.out | apply below_alloc | apply pw_below_drewN | apply below_drew1) | exact HB.out)))); have n1_ := Aside0.mk (below_step (by repeat (first | (with_reducible first | exact HB.out | apply below_alloc | apply pw_below_drewN | apply below_drew1) | exact HB.out)) hb); clear HB; have HO649 := n0_; have HB := n1_; clear n0_ n1_; clear hb ho9; obtain ⟨Ao10, co10, eo10⟩ := Kd.R_slice HO649.out; subst eo10) | ((with_reducible refine gate_callee (f := 23) rfl ?_); refine goesL_ (some 14) rfl rfl Try.func23 (by kernel_rfl) rfl #[.slice Ao10 y647.length co10, .int .i64 2] rfl (by (try simp only [List.map_toArray, List.map_cons, List.map_nil]); first | done | rfl | (simp only [List.length_drop, List.length_take]; rfl)) ?_; (with_reducible refine (span_Pick.calls k _ _ y647 2 t650 _ ?side1 ?side2 A5.out).mono ?_); (case side1 => repeat (first | exact (Kd.R_reads' HO649.out).2.2 | (with_reducible refine Kd.C_alloc ?_ _) | (with_reducible refine Kd.C_drewN ?_ _) | (with_reducible refine Kd.C_drew ?_))); (case side2 => exact (Kd.R_reads' HO649.out).2.1); rintro e w11 ⟨rfl, hb⟩; refine ⟨_, rfl, ?_⟩; have n0_ := Aside0.mk (Kd.R_below (by (with_reducible repeat (first | apply Kd.R_alloc | apply Kd.R_drewN | apply Kd.R_drew)); exact HO649.out) hb); have n1_ := Aside0.mk (below_step (by repeat (first | (with_reducible first | exact HB.out | apply below_alloc | apply pw_below_drewN | apply below_drew1) | exact HB.out)) hb); clear HO649; clear HB; have HO649 := n0_; have HB := n1_; clear n0_ n1_; (try clear hb); (try clear hb2); (try clear hk); (try clear hi)) | ((with_reducible refine gate_dst (N := 18) rfl ?_); (try (refine gate_guard (by rfl) ?_; dsimp only)); refine Kd.R_lit k26 _ 26 ?hg (N := 18) ?hd (xs := ([(⟨4, 6⟩ : S26)] : List (S26))) (inner := [.int .i64 4, .int .i64 6]) (ok := fun _ => True) (okp := fun _ => True) ?hr ?hp (fun _ hk => hk) trivial (Below.refl _ _) (Nat.le_refl _) (by simp) ?_; (case hd => rfl); (case hg => rfl); (case hr => first | (go_simp; done) | (go_simp; rfl)); (case hp => exact (Reps.c2 (show Kd.M k26 _ _ _ (⟨4, 6⟩ : S26) [.int .i64 4, .int .i64 6] from (k26_mkM _ _ _ (⟨4, 6⟩ : S26) )) (Reps.none _ _))); intro v652 w12 ho13 hb hg_ hnew_; clear hg_ hnew_; (first | rw [← Ny651.out] at ho13 | (simp only [Int.reduceToNat] at ho13; rw [← Ny651.out] at ho13)); have n0_ := Aside0.mk (Kd.R_elder' (by (with_reducible repeat (first | apply Kd.R_alloc | apply Kd.R_drewN | apply Kd.R_drew)); exact HO649.out) (Kd.R_base ho13) hb); have n1_ := Aside0.mk (Kd.R_lower (Kd.R_new' ho13 (Kd.R_lt (by (with_reducible repeat (first | apply Kd.R_alloc | apply Kd.R_drewN | apply Kd.R_drew)); exact HO649.out))) (below_size (by repeat (first | (with_reducible first | exact HB.out | apply below_alloc | apply pw_below_drewN | apply below_drew1) | exact HB.out)))); have n2_ := Aside0.mk (below_step (by repeat (first | (with_reducible first | exact HB.out | apply below_alloc | apply pw_below_drewN | apply below_drew1) | exact HB.out)) hb); clear HO649; clear HB; have HO649 := n0_; have HO653 := n1_; have HB := n2_; clear n0_ n1_ n2_; clear hb ho13; obtain ⟨Ao14, co14, eo14⟩ := Kd.R_slice HO653.out; subst eo14) | (go_at_call 22; (with_reducible refine (span_Rank.calls k _ _ y651 5 t654 _ ?side1 ?side2 A7.out).mono ?_); (case side1 => repeat (first | exact (Kd.R_reads' HO653.out).2.2 | (with_reducible refine Kd.C_alloc ?_ _) | (with_reducible refine Kd.C_drewN ?_ _) | (with_reducible refine Kd.C_drew ?_))); (case side2 => exact (Kd.R_reads' HO653.out).2.1); rintro e w15 ⟨rfl, hb⟩; have n0_ := Aside0.mk (Kd.R_below (by (with_reducible repeat (first | apply Kd.R_alloc | apply Kd.R_drewN | apply Kd.R_drew)); exact HO649.out) hb); have n1_ := Aside0.mk (Kd.R_below (by (with_reducible repeat (first | apply Kd.R_alloc | apply Kd.R_drewN | apply Kd.R_drew)); exact HO653.out) hb); have n2_ := Aside0.mk (below_step (by repeat (first | (with_reducible first | exact HB.out | apply below_alloc | apply pw_below_drewN | apply below_drew1) | exact HB.out)) hb); clear HO649; clear HO653; clear HB; have HO649 := n0_; have HO653 := n1_; have HB := n2_; clear n0_ n1_ n2_; (try clear hb); (try clear hb2); (try clear hk); (try clear hi)))
      go_meet
      case rel => exact ⟨_, ((t654 != 2)), (by first | rfl | (simp; done) | (simp [*]; done)), H', ⟨by first | omega | exact Nat.le_refl _⟩, ⟨by repeat (first | (with_reducible first | exact HB.out | apply below_alloc | apply pw_below_drewN | apply below_drew1) | exact HB.out)⟩⟩
    · rw [if_neg c6] at H
      have c6b0 : (t650 == 5) = false := beq_eq_false_iff_ne.mpr c6
      have c6b1 : (t650 != 5) = true := bne_iff_ne.mpr c6
      (first | rw [c6b0] | (simp only [i64_w, i32_w]; rw [c6b0]) | skip)
      have H' := Aside0.mk H
      clear H
      go_wp2_with (first | ((with_reducible refine gate_dst (N := 13) rfl ?_); (try (refine gate_guard (by rfl) ?_; dsimp only)); refine Kd.R_lit k26 _ 26 ?hg (N := 13) ?hd (xs := ([(⟨4, 6⟩ : S26)] : List (S26))) (inner := [.int .i64 4, .int .i64 6]) (ok := fun _ => True) (okp := fun _ => True) ?hr ?hp (fun _ hk => hk) trivial (Below.refl _ _) (Nat.le_refl _) (by simp) ?_; (case hd => rfl); (case hg => rfl); (case hr => first | (go_simp; done) | (go_simp; rfl)); (case hp => exact (Reps.c2 (show Kd.M k26 _ _ _ (⟨4, 6⟩ : S26) [.int .i64 4, .int .i64 6] from (k26_mkM _ _ _ (⟨4, 6⟩ : S26) )) (Reps.none _ _))); intro v648 w16 ho17 hb hg_ hnew_; clear hg_ hnew_; (first | rw [← Ny647.out] at ho17 | (simp only [Int.reduceToNat] at ho17; rw [← Ny647.out] at ho17)); have n0_ := Aside0.mk (Kd.R_lower ho17 (below_size (by repeat (first | (with_reducible first | exact HB.out | apply below_alloc | apply pw_below_drewN | apply below_drew1) | exact HB.out)))); have n1_ := Aside0.mk (below_step (by repeat (first | (with_reducible first | exact HB.out | apply below_alloc | apply pw_below_drewN | apply below_drew1) | exact HB.out)) hb); clear HB; have HO649 := n0_; have HB := n1_; clear n0_ n1_; clear hb ho17; obtain ⟨Ao18, co18, eo18⟩ := Kd.R_slice HO649.out; subst eo18) | ((with_reducible refine gate_callee (f := 23) rfl ?_); refine goesL_ (some 14) rfl rfl Try.func23 (by kernel_rfl) rfl #[.slice Ao18 y647.length co18, .int .i64 2] rfl (by (try simp only [List.map_toArray, List.map_cons, List.map_nil]); first | done | rfl | (simp only [List.length_drop, List.length_take]; rfl)) ?_; (with_reducible refine (span_Pick.calls k _ _ y647 2 t650 _ ?side1 ?side2 A5.out).mono ?_); (case side1 => repeat (first | exact (Kd.R_reads' HO649.out).2.2 | (with_reducible refine Kd.C_alloc ?_ _) | (with_reducible refine Kd.C_drewN ?_ _) | (with_reducible refine Kd.C_drew ?_))); (case side2 => exact (Kd.R_reads' HO649.out).2.1); rintro e w19 ⟨rfl, hb⟩; refine ⟨_, rfl, ?_⟩; have n0_ := Aside0.mk (Kd.R_below (by (with_reducible repeat (first | apply Kd.R_alloc | apply Kd.R_drewN | apply Kd.R_drew)); exact HO649.out) hb); have n1_ := Aside0.mk (below_step (by repeat (first | (with_reducible first | exact HB.out | apply below_alloc | apply pw_below_drewN | apply below_drew1) | exact HB.out)) hb); clear HO649; clear HB; have HO649 := n0_; have HB := n1_; clear n0_ n1_; (try clear hb); (try clear hb2); (try clear hk); (try clear hi)))
      go_meet
      case rel => exact ⟨_, (true), (by first | rfl | (simp; done) | (simp [*]; done)), H', ⟨by first | omega | exact Nat.le_refl _⟩, ⟨by repeat (first | (with_reducible first | exact HB.out | apply below_alloc | apply pw_below_drewN | apply below_drew1) | exact HB.out)⟩⟩
  case rest =>
    clear HC4
    try clear c1
    try clear c2
    try clear p2
    try clear c6
    try clear c6b0
    try clear c6b1
    try clear c13
    obtain ⟨kq, x21_3, rfl, HA, HJ3, HB⟩ := hcut
    cases kq with
    | zero => exact absurd HA.out (by simp [barrowlaw01_SpanGalois.j0])
    | succ kj3 =>
      have H := HA.out
      clear HA
      simp only [barrowlaw01_SpanGalois.j0] at H
      by_cases c20 : x21_3 = true
      · subst c20
        have H1 : (some false) = some r := by rw [if_pos rfl] at H; exact H
        clear H
        have H := H1
        clear H1
        obtain rfl := Option.some.inj H
        go_wp2
        go_ret
        exact ⟨by first | rfl | (simp [errW_none, errW_some] <;> rfl) | (simp [*, errW_none, errW_some] <;> rfl), by repeat (first | (with_reducible first | exact HB.out | apply below_alloc | apply pw_below_drewN | apply below_drew1) | exact HB.out)⟩
      · replace c20 := Bool.eq_false_iff.mpr c20
        subst c20
        have H1 : ((span_Size.f kj3 l0).bind fun t655 => ((span_Pick.f kj3 l0 a2).bind fun t656 => (if a2 ≥ 1 then (barrowlaw01_SpanGalois.j1 kj3 l0 a1 a2 t655 t656 (decide (a2 ≤ t655))) else (barrowlaw01_SpanGalois.j1 kj3 l0 a1 a2 t655 t656 false)))) = some r := by rw [if_neg (show ¬ (false = true) by decide)] at H; exact H
        clear H
        have H := H1
        clear H1
        replace H := Option.bind_eq_some_iff.mp H
        obtain ⟨t655, A210, H⟩ := H
        replace H : ((span_Pick.f kj3 l0 a2).bind fun t656 => (if a2 ≥ 1 then (barrowlaw01_SpanGalois.j1 kj3 l0 a1 a2 t655 t656 (decide (a2 ≤ t655))) else (barrowlaw01_SpanGalois.j1 kj3 l0 a1 a2 t655 t656 false))) = some r := H
        have A21 := Aside0.mk A210
        clear A210
        replace H := Option.bind_eq_some_iff.mp H
        obtain ⟨t656, A220, H⟩ := H
        replace H : (if a2 ≥ 1 then (barrowlaw01_SpanGalois.j1 kj3 l0 a1 a2 t655 t656 (decide (a2 ≤ t655))) else (barrowlaw01_SpanGalois.j1 kj3 l0 a1 a2 t655 t656 false)) = some r := H
        have A22 := Aside0.mk A220
        clear A220
        have HC23 := Aside0.mk H
        clear H
        go_upto_region 5 with (first | ((with_reducible refine gate_callee (f := 33) rfl ?_); refine goesL_ (some 23) rfl rfl Try.func33 (by kernel_rfl) rfl #[.slice A0 l0.length c0] rfl (by (try simp only [List.map_toArray, List.map_cons, List.map_nil]); first | done | rfl | (simp only [List.length_drop, List.length_take]; rfl)) ?_; (with_reducible refine (span_Size.calls kj3 _ _ l0 t655 _ ?side1 ?side2 A21.out).mono ?_); (case side1 => repeat (first | exact (Kd.C_below HR0.out HB.out) | (with_reducible refine Kd.C_alloc ?_ _) | (with_reducible refine Kd.C_drewN ?_ _) | (with_reducible refine Kd.C_drew ?_))); (case side2 => exact HC0.out); rintro e w24 ⟨rfl, hb⟩; refine ⟨_, rfl, ?_⟩; have n0_ := Aside0.mk (below_step (by repeat (first | (with_reducible first | exact HB.out | apply below_alloc | apply pw_below_drewN | apply below_drew1) | exact HB.out)) hb); clear HB; have HB := n0_; clear n0_; (try clear hb); (try clear hb2); (try clear hk); (try clear hi)) | ((with_reducible refine gate_callee (f := 23) rfl ?_); refine goesL_ (some 26) rfl rfl Try.func23 (by kernel_rfl) rfl #[.slice A0 l0.length c0, .int .i64 a2] rfl (by (try simp only [List.map_toArray, List.map_cons, List.map_nil]); first | done | rfl | (simp only [List.length_drop, List.length_take]; rfl)) ?_; (with_reducible refine (span_Pick.calls kj3 _ _ l0 a2 t656 _ ?side1 ?side2 A22.out).mono ?_); (case side1 => repeat (first | exact (Kd.C_below HR0.out HB.out) | (with_reducible refine Kd.C_alloc ?_ _) | (with_reducible refine Kd.C_drewN ?_ _) | (with_reducible refine Kd.C_drew ?_))); (case side2 => exact HC0.out); rintro e w25 ⟨rfl, hb⟩; refine ⟨_, rfl, ?_⟩; have n0_ := Aside0.mk (below_step (by repeat (first | (with_reducible first | exact HB.out | apply below_alloc | apply pw_below_drewN | apply below_drew1) | exact HB.out)) hb); clear HB; have HB := n0_; clear n0_; (try clear hb); (try clear hb2); (try clear hk); (try clear hi)))
        (try simp only [Act.put, List.setIfInBounds_toArray, List.set_cons_zero, List.set_cons_succ])
        go_cut [33] (fun v33 wc => ∃ (kq : Nat) (x33_22 : Bool), v33 = .bool x33_22 ∧ Aside0 (barrowlaw01_SpanGalois.j1 kq l0 a1 a2 t655 t656 x33_22 = some r) ∧ Aside0 (kq ≤ kj3) ∧ Aside0 (Below w.heap.size w wc))
        case first =>
          have H := HC23.out
          clear HC23
          by_cases c26 : a2 ≥ 1
          · rw [if_pos c26] at H
            have c26b0 : decide (1 ≤ a2) = true := decide_eq_true c26
            clear c26
            (first | rw [c26b0] | (simp only [i64_w, i32_w]; rw [c26b0]) | skip)
            have H' := Aside0.mk H
            clear H
            go_wp2
            go_meet
            case rel => exact ⟨_, (decide (a2 ≤ t655)), (by first | rfl | (simp; done) | (simp [*]; done)), H', ⟨by have := HJ3.out; first | omega | exact Nat.le_refl _⟩, ⟨by repeat (first | (with_reducible first | exact HB.out | apply below_alloc | apply pw_below_drewN | apply below_drew1) | exact HB.out)⟩⟩
          · rw [if_neg c26] at H
            have c26b0 : decide (1 ≤ a2) = false := decide_eq_false c26
            clear c26
            (first | rw [c26b0] | (simp only [i64_w, i32_w]; rw [c26b0]) | skip)
            have H' := Aside0.mk H
            clear H
            go_wp2
            go_meet
            case rel => exact ⟨_, (false), (by first | rfl | (simp; done) | (simp [*]; done)), H', ⟨by have := HJ3.out; first | omega | exact Nat.le_refl _⟩, ⟨by repeat (first | (with_reducible first | exact HB.out | apply below_alloc | apply pw_below_drewN | apply below_drew1) | exact HB.out)⟩⟩
        case rest =>
          clear HC23
          try clear c1
          try clear c2
          try clear p2
          try clear c3
          try clear c6
          try clear c6b0
          try clear c6b1
          try clear c13
          try clear c20
          try clear c23
          try clear c26
          try clear c26b0
          try clear p2
          obtain ⟨kq, x33_22, rfl, HA, HJ22, HB⟩ := hcut
          cases kq with
          | zero => exact absurd HA.out (by simp [barrowlaw01_SpanGalois.j1])
          | succ kj22 =>
            have H := HA.out
            clear HA
            simp only [barrowlaw01_SpanGalois.j1] at H
            have HC27 := Aside0.mk H
            clear H
            go_upto_if 33 with (fail)
            go_cut [] (fun wc => ∃ (kq : Nat), Aside0 (barrowlaw01_SpanGalois.j2 kq l0 a1 t655 = some r) ∧ Aside0 (kq ≤ kj22) ∧ Aside0 (Below w.heap.size w wc))
            case first =>
              have H := HC27.out
              clear HC27
              by_cases c28 : x33_22 = true
              · subst c28
                have H1 : ((span_Has.f l0 t656).bind fun t657 => (if t657 = true then ((span_Rank.f kj22 l0 t656).bind fun t658 => (if t658 = a2 then ((span_Rank.f kj22 l0 (wrap64 (t656 - 1))).bind fun t659 => (if t659 = (wrap64 (a2 - 1)) then (barrowlaw01_SpanGalois.j2 kj22 l0 a1 t655) else (some false))) else (some false))) else (some false))) = some r := by rw [if_pos rfl] at H; exact H
                clear H
                have H := H1
                clear H1
                replace H := Option.bind_eq_some_iff.mp H
                obtain ⟨t657, A290, H⟩ := H
                replace H : (if t657 = true then ((span_Rank.f kj22 l0 t656).bind fun t658 => (if t658 = a2 then ((span_Rank.f kj22 l0 (wrap64 (t656 - 1))).bind fun t659 => (if t659 = (wrap64 (a2 - 1)) then (barrowlaw01_SpanGalois.j2 kj22 l0 a1 t655) else (some false))) else (some false))) else (some false)) = some r := H
                have A29 := Aside0.mk A290
                clear A290
                by_cases c30 : t657 = true
                · subst c30
                  have H1 : ((span_Rank.f kj22 l0 t656).bind fun t658 => (if t658 = a2 then ((span_Rank.f kj22 l0 (wrap64 (t656 - 1))).bind fun t659 => (if t659 = (wrap64 (a2 - 1)) then (barrowlaw01_SpanGalois.j2 kj22 l0 a1 t655) else (some false))) else (some false))) = some r := by rw [if_pos rfl] at H; exact H
                  clear H
                  have H := H1
                  clear H1
                  replace H := Option.bind_eq_some_iff.mp H
                  obtain ⟨t658, A310, H⟩ := H
                  replace H : (if t658 = a2 then ((span_Rank.f kj22 l0 (wrap64 (t656 - 1))).bind fun t659 => (if t659 = (wrap64 (a2 - 1)) then (barrowlaw01_SpanGalois.j2 kj22 l0 a1 t655) else (some false))) else (some false)) = some r := H
                  have A31 := Aside0.mk A310
                  clear A310
                  by_cases c32 : t658 = a2
                  · rw [if_pos c32] at H
                    have c32b0 : (t658 == a2) = true := beq_iff_eq.mpr c32
                    have c32b1 : (t658 != a2) = false := bne_eq_false_iff_eq.mpr c32
                    clear c32
                    (first | rw [c32b0] | (simp only [i64_w, i32_w]; rw [c32b0]) | skip)
                    replace H := Option.bind_eq_some_iff.mp H
                    obtain ⟨t659, A330, H⟩ := H
                    replace H : (if t659 = (wrap64 (a2 - 1)) then (barrowlaw01_SpanGalois.j2 kj22 l0 a1 t655) else (some false)) = some r := H
                    have A33 := Aside0.mk A330
                    clear A330
                    by_cases c34 : t659 = (wrap64 (a2 - 1))
                    · rw [if_pos c34] at H
                      have c34b0 : (t659 == (wrap64 (a2 - 1))) = true := beq_iff_eq.mpr c34
                      have c34b1 : (t659 != (wrap64 (a2 - 1))) = false := bne_eq_false_iff_eq.mpr c34
                      clear c34
                      have H' := Aside0.mk H
                      clear H
                      go_wp2_with (first | ((with_reducible refine gate_callee (f := 43) rfl ?_); refine goesL_ (some 36) rfl rfl Try.func43 (by kernel_rfl) rfl #[.slice A0 l0.length c0, .int .i64 t656] rfl (by (try simp only [List.map_toArray, List.map_cons, List.map_nil]); first | done | rfl | (simp only [List.length_drop, List.length_take]; rfl)) ?_; (with_reducible refine (span_Has.calls _ _ l0 t656 true _ ?side1 ?side2 A29.out).mono ?_); (case side1 => repeat (first | exact (Kd.C_below HR0.out HB.out) | (with_reducible refine Kd.C_alloc ?_ _) | (with_reducible refine Kd.C_drewN ?_ _) | (with_reducible refine Kd.C_drew ?_))); (case side2 => exact HC0.out); rintro e w35 ⟨rfl, hb⟩; refine ⟨_, rfl, ?_⟩; have n0_ := Aside0.mk (below_step (by repeat (first | (with_reducible first | exact HB.out | apply below_alloc | apply pw_below_drewN | apply below_drew1) | exact HB.out)) hb); clear HB; have HB := n0_; clear n0_; (try clear hb); (try clear hb2); (try clear hk); (try clear hi)) | (go_at_call 22; (with_reducible refine (span_Rank.calls kj22 _ _ l0 t656 t658 _ ?side1 ?side2 A31.out).mono ?_); (case side1 => repeat (first | exact (Kd.C_below HR0.out HB.out) | (with_reducible refine Kd.C_alloc ?_ _) | (with_reducible refine Kd.C_drewN ?_ _) | (with_reducible refine Kd.C_drew ?_))); (case side2 => exact HC0.out); rintro e w36 ⟨rfl, hb⟩; have n0_ := Aside0.mk (below_step (by repeat (first | (with_reducible first | exact HB.out | apply below_alloc | apply pw_below_drewN | apply below_drew1) | exact HB.out)) hb); clear HB; have HB := n0_; clear n0_; (try clear hb); (try clear hb2); (try clear hk); (try clear hi)) | (go_at_call 22; (with_reducible refine (span_Rank.calls kj22 _ _ l0 (wrap64 (t656 - 1)) t659 _ ?side1 ?side2 A33.out).mono ?_); (case side1 => repeat (first | exact (Kd.C_below HR0.out HB.out) | (with_reducible refine Kd.C_alloc ?_ _) | (with_reducible refine Kd.C_drewN ?_ _) | (with_reducible refine Kd.C_drew ?_))); (case side2 => exact HC0.out); rintro e w37 ⟨rfl, hb⟩; have n0_ := Aside0.mk (below_step (by repeat (first | (with_reducible first | exact HB.out | apply below_alloc | apply pw_below_drewN | apply below_drew1) | exact HB.out)) hb); clear HB; have HB := n0_; clear n0_; (try clear hb); (try clear hb2); (try clear hk); (try clear hi)))
                      go_meet
                      case rel => exact ⟨_, H', ⟨by have := HJ3.out; have := HJ22.out; first | omega | exact Nat.le_refl _⟩, ⟨by repeat (first | (with_reducible first | exact HB.out | apply below_alloc | apply pw_below_drewN | apply below_drew1) | exact HB.out)⟩⟩
                    · rw [if_neg c34] at H
                      have c34b0 : (t659 == (wrap64 (a2 - 1))) = false := beq_eq_false_iff_ne.mpr c34
                      have c34b1 : (t659 != (wrap64 (a2 - 1))) = true := bne_iff_ne.mpr c34
                      obtain rfl := Option.some.inj H
                      go_wp2_with (first | ((with_reducible refine gate_callee (f := 43) rfl ?_); refine goesL_ (some 36) rfl rfl Try.func43 (by kernel_rfl) rfl #[.slice A0 l0.length c0, .int .i64 t656] rfl (by (try simp only [List.map_toArray, List.map_cons, List.map_nil]); first | done | rfl | (simp only [List.length_drop, List.length_take]; rfl)) ?_; (with_reducible refine (span_Has.calls _ _ l0 t656 true _ ?side1 ?side2 A29.out).mono ?_); (case side1 => repeat (first | exact (Kd.C_below HR0.out HB.out) | (with_reducible refine Kd.C_alloc ?_ _) | (with_reducible refine Kd.C_drewN ?_ _) | (with_reducible refine Kd.C_drew ?_))); (case side2 => exact HC0.out); rintro e w38 ⟨rfl, hb⟩; refine ⟨_, rfl, ?_⟩; have n0_ := Aside0.mk (below_step (by repeat (first | (with_reducible first | exact HB.out | apply below_alloc | apply pw_below_drewN | apply below_drew1) | exact HB.out)) hb); clear HB; have HB := n0_; clear n0_; (try clear hb); (try clear hb2); (try clear hk); (try clear hi)) | (go_at_call 22; (with_reducible refine (span_Rank.calls kj22 _ _ l0 t656 t658 _ ?side1 ?side2 A31.out).mono ?_); (case side1 => repeat (first | exact (Kd.C_below HR0.out HB.out) | (with_reducible refine Kd.C_alloc ?_ _) | (with_reducible refine Kd.C_drewN ?_ _) | (with_reducible refine Kd.C_drew ?_))); (case side2 => exact HC0.out); rintro e w39 ⟨rfl, hb⟩; have n0_ := Aside0.mk (below_step (by repeat (first | (with_reducible first | exact HB.out | apply below_alloc | apply pw_below_drewN | apply below_drew1) | exact HB.out)) hb); clear HB; have HB := n0_; clear n0_; (try clear hb); (try clear hb2); (try clear hk); (try clear hi)) | (go_at_call 22; (with_reducible refine (span_Rank.calls kj22 _ _ l0 (wrap64 (t656 - 1)) t659 _ ?side1 ?side2 A33.out).mono ?_); (case side1 => repeat (first | exact (Kd.C_below HR0.out HB.out) | (with_reducible refine Kd.C_alloc ?_ _) | (with_reducible refine Kd.C_drewN ?_ _) | (with_reducible refine Kd.C_drew ?_))); (case side2 => exact HC0.out); rintro e w40 ⟨rfl, hb⟩; have n0_ := Aside0.mk (below_step (by repeat (first | (with_reducible first | exact HB.out | apply below_alloc | apply pw_below_drewN | apply below_drew1) | exact HB.out)) hb); clear HB; have HB := n0_; clear n0_; (try clear hb); (try clear hb2); (try clear hk); (try clear hi)))
                      go_ret
                      exact ⟨by first | rfl | (simp [errW_none, errW_some] <;> rfl) | (simp [*, errW_none, errW_some] <;> rfl), by repeat (first | (with_reducible first | exact HB.out | apply below_alloc | apply pw_below_drewN | apply below_drew1) | exact HB.out)⟩
                  · rw [if_neg c32] at H
                    have c32b0 : (t658 == a2) = false := beq_eq_false_iff_ne.mpr c32
                    have c32b1 : (t658 != a2) = true := bne_iff_ne.mpr c32
                    (first | rw [c32b0] | (simp only [i64_w, i32_w]; rw [c32b0]) | skip)
                    obtain rfl := Option.some.inj H
                    go_wp2_with (first | ((with_reducible refine gate_callee (f := 43) rfl ?_); refine goesL_ (some 36) rfl rfl Try.func43 (by kernel_rfl) rfl #[.slice A0 l0.length c0, .int .i64 t656] rfl (by (try simp only [List.map_toArray, List.map_cons, List.map_nil]); first | done | rfl | (simp only [List.length_drop, List.length_take]; rfl)) ?_; (with_reducible refine (span_Has.calls _ _ l0 t656 true _ ?side1 ?side2 A29.out).mono ?_); (case side1 => repeat (first | exact (Kd.C_below HR0.out HB.out) | (with_reducible refine Kd.C_alloc ?_ _) | (with_reducible refine Kd.C_drewN ?_ _) | (with_reducible refine Kd.C_drew ?_))); (case side2 => exact HC0.out); rintro e w41 ⟨rfl, hb⟩; refine ⟨_, rfl, ?_⟩; have n0_ := Aside0.mk (below_step (by repeat (first | (with_reducible first | exact HB.out | apply below_alloc | apply pw_below_drewN | apply below_drew1) | exact HB.out)) hb); clear HB; have HB := n0_; clear n0_; (try clear hb); (try clear hb2); (try clear hk); (try clear hi)) | (go_at_call 22; (with_reducible refine (span_Rank.calls kj22 _ _ l0 t656 t658 _ ?side1 ?side2 A31.out).mono ?_); (case side1 => repeat (first | exact (Kd.C_below HR0.out HB.out) | (with_reducible refine Kd.C_alloc ?_ _) | (with_reducible refine Kd.C_drewN ?_ _) | (with_reducible refine Kd.C_drew ?_))); (case side2 => exact HC0.out); rintro e w42 ⟨rfl, hb⟩; have n0_ := Aside0.mk (below_step (by repeat (first | (with_reducible first | exact HB.out | apply below_alloc | apply pw_below_drewN | apply below_drew1) | exact HB.out)) hb); clear HB; have HB := n0_; clear n0_; (try clear hb); (try clear hb2); (try clear hk); (try clear hi)))
                    go_ret
                    exact ⟨by first | rfl | (simp [errW_none, errW_some] <;> rfl) | (simp [*, errW_none, errW_some] <;> rfl), by repeat (first | (with_reducible first | exact HB.out | apply below_alloc | apply pw_below_drewN | apply below_drew1) | exact HB.out)⟩
                · replace c30 := Bool.eq_false_iff.mpr c30
                  subst c30
                  have H1 : (some false) = some r := by rw [if_neg (show ¬ (false = true) by decide)] at H; exact H
                  clear H
                  have H := H1
                  clear H1
                  obtain rfl := Option.some.inj H
                  go_wp2_with (first | ((with_reducible refine gate_callee (f := 43) rfl ?_); refine goesL_ (some 36) rfl rfl Try.func43 (by kernel_rfl) rfl #[.slice A0 l0.length c0, .int .i64 t656] rfl (by (try simp only [List.map_toArray, List.map_cons, List.map_nil]); first | done | rfl | (simp only [List.length_drop, List.length_take]; rfl)) ?_; (with_reducible refine (span_Has.calls _ _ l0 t656 false _ ?side1 ?side2 A29.out).mono ?_); (case side1 => repeat (first | exact (Kd.C_below HR0.out HB.out) | (with_reducible refine Kd.C_alloc ?_ _) | (with_reducible refine Kd.C_drewN ?_ _) | (with_reducible refine Kd.C_drew ?_))); (case side2 => exact HC0.out); rintro e w43 ⟨rfl, hb⟩; refine ⟨_, rfl, ?_⟩; have n0_ := Aside0.mk (below_step (by repeat (first | (with_reducible first | exact HB.out | apply below_alloc | apply pw_below_drewN | apply below_drew1) | exact HB.out)) hb); clear HB; have HB := n0_; clear n0_; (try clear hb); (try clear hb2); (try clear hk); (try clear hi)))
                  go_ret
                  exact ⟨by first | rfl | (simp [errW_none, errW_some] <;> rfl) | (simp [*, errW_none, errW_some] <;> rfl), by repeat (first | (with_reducible first | exact HB.out | apply below_alloc | apply pw_below_drewN | apply below_drew1) | exact HB.out)⟩
              · replace c28 := Bool.eq_false_iff.mpr c28
                subst c28
                have H1 : (if t656 = 0 then (barrowlaw01_SpanGalois.j2 kj22 l0 a1 t655) else (some false)) = some r := by rw [if_neg (show ¬ (false = true) by decide)] at H; exact H
                clear H
                have H := H1
                clear H1
                by_cases c44 : t656 = 0
                · rw [if_pos c44] at H
                  have c44b0 : (t656 == 0) = true := beq_iff_eq.mpr c44
                  have c44b1 : (t656 != 0) = false := bne_eq_false_iff_eq.mpr c44
                  clear c44
                  have H' := Aside0.mk H
                  clear H
                  go_wp2
                  go_meet
                  case rel => exact ⟨_, H', ⟨by have := HJ3.out; have := HJ22.out; first | omega | exact Nat.le_refl _⟩, ⟨by repeat (first | (with_reducible first | exact HB.out | apply below_alloc | apply pw_below_drewN | apply below_drew1) | exact HB.out)⟩⟩
                · rw [if_neg c44] at H
                  have c44b0 : (t656 == 0) = false := beq_eq_false_iff_ne.mpr c44
                  have c44b1 : (t656 != 0) = true := bne_iff_ne.mpr c44
                  obtain rfl := Option.some.inj H
                  go_wp2
                  go_ret
                  exact ⟨by first | rfl | (simp [errW_none, errW_some] <;> rfl) | (simp [*, errW_none, errW_some] <;> rfl), by repeat (first | (with_reducible first | exact HB.out | apply below_alloc | apply pw_below_drewN | apply below_drew1) | exact HB.out)⟩
            case rest =>
              clear HC27
              try clear c1
              try clear c2
              try clear p2
              try clear c3
              try clear c4
              try clear c6
              try clear c6b0
              try clear c6b1
              try clear p6
              try clear c13
              try clear c20
              try clear c23
              try clear c26
              try clear c26b0
              try clear c28
              try clear c30
              try clear c32
              try clear c32b0
              try clear c32b1
              try clear c33
              try clear c34
              try clear c34b0
              try clear c34b1
              try clear c43
              try clear c44
              try clear c44b0
              try clear c44b1
              try clear p2
              obtain ⟨kq, HA, HJ26, HB⟩ := hcut
              cases kq with
              | zero => exact absurd HA.out (by simp [barrowlaw01_SpanGalois.j2])
              | succ kj26 =>
                have H := HA.out
                clear HA
                simp only [barrowlaw01_SpanGalois.j2] at H
                replace H := Option.bind_eq_some_iff.mp H
                obtain ⟨t660, A450, H⟩ := H
                replace H : (if t660 < 0 then (barrowlaw01_SpanGalois.j3 kj26 l0 a1 t660 true) else (barrowlaw01_SpanGalois.j3 kj26 l0 a1 t660 (decide (t660 > t655)))) = some r := H
                have A45 := Aside0.mk A450
                clear A450
                have HC46 := Aside0.mk H
                clear H
                go_upto_region 11 with (first | ((with_reducible refine gate_callee (f := 22) rfl ?_); refine goesL_ (some 58) rfl rfl Try.func22 (by kernel_rfl) rfl #[.slice A0 l0.length c0, .int .i64 a1] rfl (by (try simp only [List.map_toArray, List.map_cons, List.map_nil]); first | done | rfl | (simp only [List.length_drop, List.length_take]; rfl)) ?_; (with_reducible refine (span_Rank.calls kj26 _ _ l0 a1 t660 _ ?side1 ?side2 A45.out).mono ?_); (case side1 => repeat (first | exact (Kd.C_below HR0.out HB.out) | (with_reducible refine Kd.C_alloc ?_ _) | (with_reducible refine Kd.C_drewN ?_ _) | (with_reducible refine Kd.C_drew ?_))); (case side2 => exact HC0.out); rintro e w47 ⟨rfl, hb⟩; refine ⟨_, rfl, ?_⟩; have n0_ := Aside0.mk (below_step (by repeat (first | (with_reducible first | exact HB.out | apply below_alloc | apply pw_below_drewN | apply below_drew1) | exact HB.out)) hb); clear HB; have HB := n0_; clear n0_; (try clear hb); (try clear hb2); (try clear hk); (try clear hi)))
                (try simp only [Act.put, List.setIfInBounds_toArray, List.set_cons_zero, List.set_cons_succ])
                go_cut [65] (fun v65 wc => ∃ (kq : Nat) (x65_45 : Bool), v65 = .bool x65_45 ∧ Aside0 (barrowlaw01_SpanGalois.j3 kq l0 a1 t660 x65_45 = some r) ∧ Aside0 (kq ≤ kj26) ∧ Aside0 (Below w.heap.size w wc))
                case first =>
                  have H := HC46.out
                  clear HC46
                  by_cases c48 : t660 < 0
                  · rw [if_pos c48] at H
                    have c48b0 : decide (t660 < 0) = true := decide_eq_true c48
                    clear c48
                    (first | rw [c48b0] | (simp only [i64_w, i32_w]; rw [c48b0]) | skip)
                    have H' := Aside0.mk H
                    clear H
                    go_wp2
                    go_meet
                    case rel => exact ⟨_, (true), (by first | rfl | (simp; done) | (simp [*]; done)), H', ⟨by have := HJ3.out; have := HJ22.out; have := HJ26.out; first | omega | exact Nat.le_refl _⟩, ⟨by repeat (first | (with_reducible first | exact HB.out | apply below_alloc | apply pw_below_drewN | apply below_drew1) | exact HB.out)⟩⟩
                  · rw [if_neg c48] at H
                    have c48b0 : decide (t660 < 0) = false := decide_eq_false c48
                    clear c48
                    (first | rw [c48b0] | (simp only [i64_w, i32_w]; rw [c48b0]) | skip)
                    have H' := Aside0.mk H
                    clear H
                    go_wp2
                    go_meet
                    case rel => exact ⟨_, (decide (t660 > t655)), (by first | rfl | (simp; done) | (simp [*]; done)), H', ⟨by have := HJ3.out; have := HJ22.out; have := HJ26.out; first | omega | exact Nat.le_refl _⟩, ⟨by repeat (first | (with_reducible first | exact HB.out | apply below_alloc | apply pw_below_drewN | apply below_drew1) | exact HB.out)⟩⟩
                case rest =>
                  clear HC46
                  try clear c1
                  try clear c2
                  try clear p2
                  try clear c3
                  try clear c4
                  try clear c6
                  try clear c6b0
                  try clear c6b1
                  try clear p6
                  try clear c13
                  try clear c20
                  try clear c22
                  try clear c23
                  try clear c26
                  try clear c26b0
                  try clear c28
                  try clear c30
                  try clear c32
                  try clear c32b0
                  try clear c32b1
                  try clear c33
                  try clear c34
                  try clear c34b0
                  try clear c34b1
                  try clear c43
                  try clear c44
                  try clear c44b0
                  try clear c44b1
                  try clear c48
                  try clear c48b0
                  try clear p2
                  try clear p6
                  obtain ⟨kq, x65_45, rfl, HA, HJ45, HB⟩ := hcut
                  cases kq with
                  | zero => exact absurd HA.out (by simp [barrowlaw01_SpanGalois.j3])
                  | succ kj45 =>
                    have H := HA.out
                    clear HA
                    simp only [barrowlaw01_SpanGalois.j3] at H
                    by_cases c49 : x65_45 = true
                    · subst c49
                      have H1 : (some false) = some r := by rw [if_pos rfl] at H; exact H
                      clear H
                      have H := H1
                      clear H1
                      obtain rfl := Option.some.inj H
                      go_wp2
                      go_ret
                      exact ⟨by first | rfl | (simp [errW_none, errW_some] <;> rfl) | (simp [*, errW_none, errW_some] <;> rfl), by repeat (first | (with_reducible first | exact HB.out | apply below_alloc | apply pw_below_drewN | apply below_drew1) | exact HB.out)⟩
                    · replace c49 := Bool.eq_false_iff.mpr c49
                      subst c49
                      have H1 : ((span_Pick.f kj45 l0 t660).bind fun t661 => (if t661 > a1 then (barrowlaw01_SpanGalois.j4 kj45 l0 a1 t660 t661 (decide (t660 > 0))) else (barrowlaw01_SpanGalois.j4 kj45 l0 a1 t660 t661 false))) = some r := by rw [if_neg (show ¬ (false = true) by decide)] at H; exact H
                      clear H
                      have H := H1
                      clear H1
                      replace H := Option.bind_eq_some_iff.mp H
                      obtain ⟨t661, A500, H⟩ := H
                      replace H : (if t661 > a1 then (barrowlaw01_SpanGalois.j4 kj45 l0 a1 t660 t661 (decide (t660 > 0))) else (barrowlaw01_SpanGalois.j4 kj45 l0 a1 t660 t661 false)) = some r := H
                      have A50 := Aside0.mk A500
                      clear A500
                      have HC51 := Aside0.mk H
                      clear H
                      go_upto_region 14 with (first | ((with_reducible refine gate_callee (f := 23) rfl ?_); refine goesL_ (some 68) rfl rfl Try.func23 (by kernel_rfl) rfl #[.slice A0 l0.length c0, .int .i64 t660] rfl (by (try simp only [List.map_toArray, List.map_cons, List.map_nil]); first | done | rfl | (simp only [List.length_drop, List.length_take]; rfl)) ?_; (with_reducible refine (span_Pick.calls kj45 _ _ l0 t660 t661 _ ?side1 ?side2 A50.out).mono ?_); (case side1 => repeat (first | exact (Kd.C_below HR0.out HB.out) | (with_reducible refine Kd.C_alloc ?_ _) | (with_reducible refine Kd.C_drewN ?_ _) | (with_reducible refine Kd.C_drew ?_))); (case side2 => exact HC0.out); rintro e w52 ⟨rfl, hb⟩; refine ⟨_, rfl, ?_⟩; have n0_ := Aside0.mk (below_step (by repeat (first | (with_reducible first | exact HB.out | apply below_alloc | apply pw_below_drewN | apply below_drew1) | exact HB.out)) hb); clear HB; have HB := n0_; clear n0_; (try clear hb); (try clear hb2); (try clear hk); (try clear hi)))
                      (try simp only [Act.put, List.setIfInBounds_toArray, List.set_cons_zero, List.set_cons_succ])
                      go_cut [75] (fun v75 wc => ∃ (kq : Nat) (x75_50 : Bool), v75 = .bool x75_50 ∧ Aside0 (barrowlaw01_SpanGalois.j4 kq l0 a1 t660 t661 x75_50 = some r) ∧ Aside0 (kq ≤ kj45) ∧ Aside0 (Below w.heap.size w wc))
                      case first =>
                        have H := HC51.out
                        clear HC51
                        by_cases c53 : t661 > a1
                        · rw [if_pos c53] at H
                          have c53b0 : decide (a1 < t661) = true := decide_eq_true c53
                          clear c53
                          (first | rw [c53b0] | (simp only [i64_w, i32_w]; rw [c53b0]) | skip)
                          have H' := Aside0.mk H
                          clear H
                          go_wp2
                          go_meet
                          case rel => exact ⟨_, (decide (t660 > 0)), (by first | rfl | (simp; done) | (simp [*]; done)), H', ⟨by have := HJ3.out; have := HJ22.out; have := HJ26.out; have := HJ45.out; first | omega | exact Nat.le_refl _⟩, ⟨by repeat (first | (with_reducible first | exact HB.out | apply below_alloc | apply pw_below_drewN | apply below_drew1) | exact HB.out)⟩⟩
                        · rw [if_neg c53] at H
                          have c53b0 : decide (a1 < t661) = false := decide_eq_false c53
                          clear c53
                          (first | rw [c53b0] | (simp only [i64_w, i32_w]; rw [c53b0]) | skip)
                          have H' := Aside0.mk H
                          clear H
                          go_wp2
                          go_meet
                          case rel => exact ⟨_, (false), (by first | rfl | (simp; done) | (simp [*]; done)), H', ⟨by have := HJ3.out; have := HJ22.out; have := HJ26.out; have := HJ45.out; first | omega | exact Nat.le_refl _⟩, ⟨by repeat (first | (with_reducible first | exact HB.out | apply below_alloc | apply pw_below_drewN | apply below_drew1) | exact HB.out)⟩⟩
                      case rest =>
                        clear HC51
                        try clear c1
                        try clear c2
                        try clear p2
                        try clear c3
                        try clear c4
                        try clear c5
                        try clear c6
                        try clear c6b0
                        try clear c6b1
                        try clear p6
                        try clear c13
                        try clear c20
                        try clear c22
                        try clear c23
                        try clear c26
                        try clear c26b0
                        try clear c28
                        try clear c30
                        try clear c32
                        try clear c32b0
                        try clear c32b1
                        try clear c33
                        try clear c34
                        try clear c34b0
                        try clear c34b1
                        try clear c43
                        try clear c44
                        try clear c44b0
                        try clear c44b1
                        try clear c48
                        try clear c48b0
                        try clear c49
                        try clear c53
                        try clear c53b0
                        try clear p2
                        try clear p6
                        obtain ⟨kq, x75_50, rfl, HA, HJ50, HB⟩ := hcut
                        cases kq with
                        | zero => exact absurd HA.out (by simp [barrowlaw01_SpanGalois.j4])
                        | succ kj50 =>
                          have H := HA.out
                          clear HA
                          simp only [barrowlaw01_SpanGalois.j4] at H
                          by_cases c54 : x75_50 = true
                          · subst c54
                            have H1 : (some false) = some r := by rw [if_pos rfl] at H; exact H
                            clear H
                            have H := H1
                            clear H1
                            obtain rfl := Option.some.inj H
                            go_wp2
                            go_ret
                            exact ⟨by first | rfl | (simp [errW_none, errW_some] <;> rfl) | (simp [*, errW_none, errW_some] <;> rfl), by repeat (first | (with_reducible first | exact HB.out | apply below_alloc | apply pw_below_drewN | apply below_drew1) | exact HB.out)⟩
                          · replace c54 := Bool.eq_false_iff.mpr c54
                            subst c54
                            have H1 : ((span_Pick.f kj50 l0 (wrap64 (t660 + 1))).bind fun t662 => (if t662 = 0 then (some true) else (if t662 > a1 then ((span_First.f kj50 l0 (wrap64 (t661 + 1))).bind fun t663 => (some (t663 == t662))) else (some false)))) = some r := by rw [if_neg (show ¬ (false = true) by decide)] at H; exact H
                            clear H
                            have H := H1
                            clear H1
                            replace H := Option.bind_eq_some_iff.mp H
                            obtain ⟨t662, A550, H⟩ := H
                            replace H : (if t662 = 0 then (some true) else (if t662 > a1 then ((span_First.f kj50 l0 (wrap64 (t661 + 1))).bind fun t663 => (some (t663 == t662))) else (some false))) = some r := H
                            have A55 := Aside0.mk A550
                            clear A550
                            by_cases c56 : t662 = 0
                            · rw [if_pos c56] at H
                              have c56b0 : (t662 == 0) = true := beq_iff_eq.mpr c56
                              have c56b1 : (t662 != 0) = false := bne_eq_false_iff_eq.mpr c56
                              clear c56
                              obtain rfl := Option.some.inj H
                              go_wp2_with (first | ((with_reducible refine gate_callee (f := 23) rfl ?_); refine goesL_ (some 79) rfl rfl Try.func23 (by kernel_rfl) rfl #[.slice A0 l0.length c0, .int .i64 (wrap64 (t660 + 1))] rfl (by (try simp only [List.map_toArray, List.map_cons, List.map_nil]); first | done | rfl | (simp only [List.length_drop, List.length_take]; rfl)) ?_; (with_reducible refine (span_Pick.calls kj50 _ _ l0 (wrap64 (t660 + 1)) t662 _ ?side1 ?side2 A55.out).mono ?_); (case side1 => repeat (first | exact (Kd.C_below HR0.out HB.out) | (with_reducible refine Kd.C_alloc ?_ _) | (with_reducible refine Kd.C_drewN ?_ _) | (with_reducible refine Kd.C_drew ?_))); (case side2 => exact HC0.out); rintro e w57 ⟨rfl, hb⟩; refine ⟨_, rfl, ?_⟩; have n0_ := Aside0.mk (below_step (by repeat (first | (with_reducible first | exact HB.out | apply below_alloc | apply pw_below_drewN | apply below_drew1) | exact HB.out)) hb); clear HB; have HB := n0_; clear n0_; (try clear hb); (try clear hb2); (try clear hk); (try clear hi)))
                              go_ret
                              exact ⟨by first | rfl | (simp [errW_none, errW_some] <;> rfl) | (simp [*, errW_none, errW_some] <;> rfl), by repeat (first | (with_reducible first | exact HB.out | apply below_alloc | apply pw_below_drewN | apply below_drew1) | exact HB.out)⟩
                            · rw [if_neg c56] at H
                              have c56b0 : (t662 == 0) = false := beq_eq_false_iff_ne.mpr c56
                              have c56b1 : (t662 != 0) = true := bne_iff_ne.mpr c56
                              by_cases c58 : t662 > a1
                              · rw [if_pos c58] at H
                                have c58b0 : decide (a1 < t662) = true := decide_eq_true c58
                                clear c58
                                replace H := Option.bind_eq_some_iff.mp H
                                obtain ⟨t663, A590, H⟩ := H
                                replace H : (some (t663 == t662)) = some r := H
                                have A59 := Aside0.mk A590
                                clear A590
                                obtain rfl := Option.some.inj H
                                go_wp2_with (first | ((with_reducible refine gate_callee (f := 23) rfl ?_); refine goesL_ (some 79) rfl rfl Try.func23 (by kernel_rfl) rfl #[.slice A0 l0.length c0, .int .i64 (wrap64 (t660 + 1))] rfl (by (try simp only [List.map_toArray, List.map_cons, List.map_nil]); first | done | rfl | (simp only [List.length_drop, List.length_take]; rfl)) ?_; (with_reducible refine (span_Pick.calls kj50 _ _ l0 (wrap64 (t660 + 1)) t662 _ ?side1 ?side2 A55.out).mono ?_); (case side1 => repeat (first | exact (Kd.C_below HR0.out HB.out) | (with_reducible refine Kd.C_alloc ?_ _) | (with_reducible refine Kd.C_drewN ?_ _) | (with_reducible refine Kd.C_drew ?_))); (case side2 => exact HC0.out); rintro e w60 ⟨rfl, hb⟩; refine ⟨_, rfl, ?_⟩; have n0_ := Aside0.mk (below_step (by repeat (first | (with_reducible first | exact HB.out | apply below_alloc | apply pw_below_drewN | apply below_drew1) | exact HB.out)) hb); clear HB; have HB := n0_; clear n0_; (try clear hb); (try clear hb2); (try clear hk); (try clear hi)) | (go_at_call 48; (with_reducible refine (span_First.calls kj50 _ _ l0 (wrap64 (t661 + 1)) t663 _ ?side1 ?side2 A59.out).mono ?_); (case side1 => repeat (first | exact (Kd.C_below HR0.out HB.out) | (with_reducible refine Kd.C_alloc ?_ _) | (with_reducible refine Kd.C_drewN ?_ _) | (with_reducible refine Kd.C_drew ?_))); (case side2 => exact HC0.out); rintro e w61 ⟨rfl, hb⟩; have n0_ := Aside0.mk (below_step (by repeat (first | (with_reducible first | exact HB.out | apply below_alloc | apply pw_below_drewN | apply below_drew1) | exact HB.out)) hb); clear HB; have HB := n0_; clear n0_; (try clear hb); (try clear hb2); (try clear hk); (try clear hi)))
                                go_ret
                                exact ⟨by first | rfl | (simp [errW_none, errW_some] <;> rfl) | (simp [*, errW_none, errW_some] <;> rfl), by repeat (first | (with_reducible first | exact HB.out | apply below_alloc | apply pw_below_drewN | apply below_drew1) | exact HB.out)⟩
                              · rw [if_neg c58] at H
                                have c58b0 : decide (a1 < t662) = false := decide_eq_false c58
                                clear c58
                                obtain rfl := Option.some.inj H
                                go_wp2_with (first | ((with_reducible refine gate_callee (f := 23) rfl ?_); refine goesL_ (some 79) rfl rfl Try.func23 (by kernel_rfl) rfl #[.slice A0 l0.length c0, .int .i64 (wrap64 (t660 + 1))] rfl (by (try simp only [List.map_toArray, List.map_cons, List.map_nil]); first | done | rfl | (simp only [List.length_drop, List.length_take]; rfl)) ?_; (with_reducible refine (span_Pick.calls kj50 _ _ l0 (wrap64 (t660 + 1)) t662 _ ?side1 ?side2 A55.out).mono ?_); (case side1 => repeat (first | exact (Kd.C_below HR0.out HB.out) | (with_reducible refine Kd.C_alloc ?_ _) | (with_reducible refine Kd.C_drewN ?_ _) | (with_reducible refine Kd.C_drew ?_))); (case side2 => exact HC0.out); rintro e w62 ⟨rfl, hb⟩; refine ⟨_, rfl, ?_⟩; have n0_ := Aside0.mk (below_step (by repeat (first | (with_reducible first | exact HB.out | apply below_alloc | apply pw_below_drewN | apply below_drew1) | exact HB.out)) hb); clear HB; have HB := n0_; clear n0_; (try clear hb); (try clear hb2); (try clear hk); (try clear hi)))
                                go_ret
                                exact ⟨by first | rfl | (simp [errW_none, errW_some] <;> rfl) | (simp [*, errW_none, errW_some] <;> rfl), by repeat (first | (with_reducible first | exact HB.out | apply below_alloc | apply pw_below_drewN | apply below_drew1) | exact HB.out)⟩

end Go.Proofs.Yteldhpneegccjaa.G
