import Derived.Test.YtmicghhmbojkfaaGreatDoorQAl6
import Derived.Test.YtmicghhmbojkfaaGreatDoorQAl17
import Derived.Test.YtmicghhmbojkfaaGreatDoorQAl30
-- PRINTED by print.py (a twelfth state) out of the translation. Not trusted: Lean checks it.
namespace Go.Proofs.YtmicghhmbojkfaaGreatDoor.G
open Go.RowKit Go.Proofs.YtmicghhmbojkfaaGreatDoorW.PrintWords Go.Proofs.YtmicghhmbojkfaaGreatDoorW.PrintLast Go.Proofs.YtmicghhmbojkfaaGreatDoorW.PrintMore
attribute [local go_sem] max2_int min2_int max_two min_two max_three min_three max_four min_four   -- for this text's walks alone
set_option linter.unusedVariables false
set_option linter.unusedSimpArgs false

/-! ### barrowlaw02_GoodsAll: function 8 -/
def barrowlaw02_GoodsAll.l0 : Nat → List (S35) → Int → Option (Bool)
 | 0, _, _ => none
 | k + 1, x0, x3 => if x3 < (x0.length : Int) then (if 0 ≤ x3 then ((barrowlaw02_plays.f k ((rd_T35 x0 x3).f0) ((rd_T35 x0 x3).f1) ((rd_T35 x0 x3).f2) ((rd_T35 x0 x3).f3) ((rd_T35 x0 x3).f4)).bind fun t328 => (if t328 = true then (barrowlaw02_GoodsAll.l0 k x0 (wrap64 (x3 + 1))) else (some false))) else (none)) else (some true)
def barrowlaw02_GoodsAll.f (k : Nat) (l0 : List (S35)) : Option (Bool) := (goods_Compare.f k (⟨#[66]⟩ : ByteArray) (⟨#[65, 49, 48, 48]⟩ : ByteArray)).bind fun t326 => (if t326 = 1 then (barrowlaw02_GoodsAll.l0 k l0 0) else (some false))
theorem barrowlaw02_GoodsAll.mono_l : ∀ k, (∀ y0 y1, LeO (barrowlaw02_GoodsAll.l0 k y0 y1) (barrowlaw02_GoodsAll.l0 (k + 1) y0 y1))
 | 0 => fun _ _ r h => by simp [barrowlaw02_GoodsAll.l0] at h
 | k + 1 => by
  have ih0 := barrowlaw02_GoodsAll.mono_l k
  ·intro y0 y1
   unfold barrowlaw02_GoodsAll.l0
   repeat' first
   | (with_reducible exact ih0 _ _)
   | (with_reducible exact barrowlaw02_plays.mono _ _ _ _ _ _)
   | (with_reducible exact goods_Compare.mono _ _ _)
   | (with_reducible exact LeO.refl _)
   | (with_reducible exact LeO.none _)
   | (with_reducible refine LeO.ite ?_ ?_)
   | (with_reducible refine LeO.bind ?_ (fun _ => ?_))
   | exact ih0 _ _
   | exact barrowlaw02_plays.mono _ _ _ _ _ _
   | exact goods_Compare.mono _ _ _
   | exact LeO.none _
   | refine LeO.ite ?_ ?_
   | refine LeO.bind ?_ (fun _ => ?_)
theorem barrowlaw02_GoodsAll.mono : ∀ a0 k, LeO (barrowlaw02_GoodsAll.f k a0) (barrowlaw02_GoodsAll.f (k + 1) a0) := by
 intro a0 k
 have ih0 := barrowlaw02_GoodsAll.mono_l k
 unfold barrowlaw02_GoodsAll.f
 repeat' first
   | (with_reducible exact ih0 _ _)
   | (with_reducible exact barrowlaw02_plays.mono _ _ _ _ _ _)
   | (with_reducible exact goods_Compare.mono _ _ _)
   | (with_reducible exact LeO.refl _)
   | (with_reducible exact LeO.none _)
   | (with_reducible refine LeO.ite ?_ ?_)
   | (with_reducible refine LeO.bind ?_ (fun _ => ?_))
   | exact ih0 _ _
   | exact barrowlaw02_plays.mono _ _ _ _ _ _
   | exact goods_Compare.mono _ _ _
   | exact LeO.none _
   | refine LeO.ite ?_ ?_
   | refine LeO.bind ?_ (fun _ => ?_)
set_option maxHeartbeats 8000000 in
set_option maxRecDepth 100000 in
theorem barrowlaw02_GoodsAll.calls (k : Nat) (A0 : Option Addr) (c0 : Nat) (l0 : List (S35)) (r : Bool) (w : World) (hTab : Aside0 (Tab w)) (hr0 : Kd.C k35 w A0 l0.length l0) (hc0 : l0.length ≤ c0) (h : barrowlaw02_GoodsAll.f k l0 = some r) :
  Calls Tryz.prog 8 #[.slice A0 l0.length c0] w fun e w' => e = .returned (.bool r) ∧ Below w.heap.size w w' := by
 have hu35 := Tryz.underlying35
 have HR0 := Aside0.mk hr0
 have HC0 := Aside0.mk hc0
 clear hr0 hc0
 have HB := Aside0.mk (Below.refl w.heap.size w)
 have H : ((goods_Compare.f k (⟨#[66]⟩ : ByteArray) (⟨#[65, 49, 48, 48]⟩ : ByteArray)).bind fun t326 => (if t326 = 1 then (barrowlaw02_GoodsAll.l0 k l0 0) else (some false))) = some r := h
 clear h
 replace H := Option.bind_eq_some_iff.mp H
 obtain ⟨t326, A20, H⟩ := H
 replace H : (if t326 = 1 then (barrowlaw02_GoodsAll.l0 k l0 0) else (some false)) = some r := H
 have A2 := Aside0.mk A20
 clear A20
 by_cases c3 : t326 = 1
 ·rw [if_pos c3] at H
  have c3b0 : (t326 == 1) = true := beq_iff_eq.mpr c3
  have c3b1 : (t326 != 1) = false := bne_eq_false_iff_eq.mpr c3
  clear c3
  have H' := Aside0.mk H
  clear H
  go_enter Tryz.func8, Tryz.ntmps8
  go_wp2_with (first | ((with_reducible refine gate_callee (f := 14) rfl ?_); refine goesL_ (some 4) rfl rfl Tryz.func14 (by kernel_rfl) rfl #[.string (⟨#[66]⟩ : ByteArray), .string (⟨#[65, 49, 48, 48]⟩ : ByteArray)] rfl (by (try simp only [List.map_toArray, List.map_cons, List.map_nil]); first | done | rfl | (simp only [List.length_drop, List.length_take]; rfl)) ?_; (with_reducible refine (goods_Compare.calls k (⟨#[66]⟩ : ByteArray) (⟨#[65, 49, 48, 48]⟩ : ByteArray) t326 _ A2.out).mono ?_); rintro e w4 ⟨rfl, hb⟩; refine ⟨_, rfl, ?_⟩; have n0_ := Aside0.mk (below_step (by repeat (first | (with_reducible first | exact HB.out | apply below_alloc | apply pw_below_drewN | apply below_drew1) | exact HB.out)) hb); clear HB; have HB := n0_; clear n0_; (try clear hb); (try clear hb2); (try clear hk); (try clear hi)))
  go_loopg [3] k (fun kq v3 w' => ∃ (x3_1 : Int), v3 = .int .i64 x3_1 ∧ Aside0 (barrowlaw02_GoodsAll.l0 kq l0 x3_1 = some r) ∧ Aside0 (kq ≤ k) ∧ Aside0 (Below w.heap.size w w'))
  case atStart => exact ⟨(0), (by first | rfl | (simp; done) | (simp [*]; done)), H', ⟨Nat.le_refl _⟩, ⟨by repeat (first | (with_reducible first | exact HB.out | apply below_alloc | apply pw_below_drewN | apply below_drew1) | exact HB.out)⟩⟩
  case round =>
   clear H'
   try clear c1
   try clear p2
   try clear c3
   try clear c3b0
   try clear c3b1
   obtain ⟨x3_1, rfl, HA, HK1, HB⟩ := hrel
   cases gk with
   | zero => exact absurd HA.out (by simp [barrowlaw02_GoodsAll.l0])
   | succ k1 =>
    have H := HA.out
    clear HA
    simp only [barrowlaw02_GoodsAll.l0] at H
    by_cases c5 : x3_1 < (l0.length : Int)
    ·rw [if_pos c5] at H
     have c5b0 : decide (x3_1 < (l0.length : Int)) = true := decide_eq_true c5
     clear c5
     by_cases c6 : 0 ≤ x3_1
     ·rw [if_pos c6] at H
      have c6b0 : decide (0 ≤ x3_1) = true := decide_eq_true c6
      clear c6
      replace H := Option.bind_eq_some_iff.mp H
      obtain ⟨t328, A70, H⟩ := H
      replace H : (if t328 = true then (barrowlaw02_GoodsAll.l0 k1 l0 (wrap64 (x3_1 + 1))) else (some false)) = some r := H
      have A7 := Aside0.mk A70
      clear A70
      by_cases c8 : t328 = true
      ·subst c8
       have H1 : (barrowlaw02_GoodsAll.l0 k1 l0 (wrap64 (x3_1 + 1))) = some r := by rw [if_pos rfl] at H; exact H
       clear H
       have H := H1
       clear H1
       have H' := Aside0.mk H
       clear H
       have p327 : 0 ≤ (x3_1 : Int) := of_decide_eq_true (by first | (with_reducible assumption) | assumption)
       have q327 : x3_1 < (l0.length : Int) := of_decide_eq_true (by first | (with_reducible assumption) | assumption)
       obtain ⟨ad327, A327_4, c327_4, e327, hx327_0, hx327_1, hx327_2, hx327_3, hx327_4, hl327_4, hi327_4⟩ := at_T35 HR0.out x3_1 p327 q327
       cases e327
       replace hx327_0 := (HB.out.cell (World.block_lt_of_cell? w _ hx327_0)).trans hx327_0
       replace hx327_1 := (HB.out.cell (World.block_lt_of_cell? w _ hx327_1)).trans hx327_1
       replace hx327_2 := (HB.out.cell (World.block_lt_of_cell? w _ hx327_2)).trans hx327_2
       replace hx327_3 := (HB.out.cell (World.block_lt_of_cell? w _ hx327_3)).trans hx327_3
       replace hx327_4 := (HB.out.cell (World.block_lt_of_cell? w _ hx327_4)).trans hx327_4
       have HR327_4 := Aside0.mk hi327_4
       have HC327_4 := Aside0.mk hl327_4
       clear hi327_4 hl327_4
       replace p327 := eq_true p327
       replace q327 := eq_true q327
       go_wp2_with (first | ((with_reducible refine gate_callee (f := 16) rfl ?_); refine goesL_ (some 16) rfl rfl Tryz.func16 (by kernel_rfl) rfl #[.agg #[.int .i64 ((rd_T35 l0 x3_1).f0), .string ((rd_T35 l0 x3_1).f1), .string ((rd_T35 l0 x3_1).f2), .int .i64 ((rd_T35 l0 x3_1).f3), .slice A327_4 ((rd_T35 l0 x3_1).f4).length c327_4]] rfl (by (try simp only [List.map_toArray, List.map_cons, List.map_nil]); first | done | rfl | (simp only [List.length_drop, List.length_take]; rfl)) ?_; (with_reducible refine (barrowlaw02_plays.calls k1 ((rd_T35 l0 x3_1).f0) ((rd_T35 l0 x3_1).f1) ((rd_T35 l0 x3_1).f2) ((rd_T35 l0 x3_1).f3) _ _ ((rd_T35 l0 x3_1).f4) true _ ?tab1_ ?side1 ?side2 A7.out).mono ?_); (case tab1_ => exact tab_keep hTab (by repeat (first | (with_reducible first | exact HB.out | apply below_alloc | apply pw_below_drewN | apply below_drew1) | exact HB.out))); (case side1 => repeat (first | exact (Kd.C_below HR327_4.out HB.out) | (with_reducible refine Kd.C_alloc ?_ _) | (with_reducible refine Kd.C_drewN ?_ _) | (with_reducible refine Kd.C_drew ?_))); (case side2 => exact HC327_4.out); rintro e w9 ⟨rfl, hb⟩; refine ⟨_, rfl, ?_⟩; have n0_ := Aside0.mk (below_step (by repeat (first | (with_reducible first | exact HB.out | apply below_alloc | apply pw_below_drewN | apply below_drew1) | exact HB.out)) hb); clear HB; have HB := n0_; clear n0_; (try clear hb); (try clear hb2); (try clear hk); (try clear hi)))
       go_roundg k1
       case measure => have := HK1.out; omega
       case rel => exact ⟨(wrap64 (x3_1 + 1)), (by first | rfl | (simp; done) | (simp [*]; done)), H', ⟨by have := HK1.out; omega⟩, ⟨by repeat (first | (with_reducible first | exact HB.out | apply below_alloc | apply pw_below_drewN | apply below_drew1) | exact HB.out)⟩⟩
      ·replace c8 := Bool.eq_false_iff.mpr c8
       subst c8
       have H1 : (some false) = some r := by rw [if_neg (show ¬ (false = true) by decide)] at H; exact H
       clear H
       have H := H1
       clear H1
       obtain rfl := Option.some.inj H
       have p327 : 0 ≤ (x3_1 : Int) := of_decide_eq_true (by first | (with_reducible assumption) | assumption)
       have q327 : x3_1 < (l0.length : Int) := of_decide_eq_true (by first | (with_reducible assumption) | assumption)
       obtain ⟨ad327, A327_4, c327_4, e327, hx327_0, hx327_1, hx327_2, hx327_3, hx327_4, hl327_4, hi327_4⟩ := at_T35 HR0.out x3_1 p327 q327
       cases e327
       replace hx327_0 := (HB.out.cell (World.block_lt_of_cell? w _ hx327_0)).trans hx327_0
       replace hx327_1 := (HB.out.cell (World.block_lt_of_cell? w _ hx327_1)).trans hx327_1
       replace hx327_2 := (HB.out.cell (World.block_lt_of_cell? w _ hx327_2)).trans hx327_2
       replace hx327_3 := (HB.out.cell (World.block_lt_of_cell? w _ hx327_3)).trans hx327_3
       replace hx327_4 := (HB.out.cell (World.block_lt_of_cell? w _ hx327_4)).trans hx327_4
       have HR327_4 := Aside0.mk hi327_4
       have HC327_4 := Aside0.mk hl327_4
       clear hi327_4 hl327_4
       replace p327 := eq_true p327
       replace q327 := eq_true q327
       go_wp2_with (first | ((with_reducible refine gate_callee (f := 16) rfl ?_); refine goesL_ (some 16) rfl rfl Tryz.func16 (by kernel_rfl) rfl #[.agg #[.int .i64 ((rd_T35 l0 x3_1).f0), .string ((rd_T35 l0 x3_1).f1), .string ((rd_T35 l0 x3_1).f2), .int .i64 ((rd_T35 l0 x3_1).f3), .slice A327_4 ((rd_T35 l0 x3_1).f4).length c327_4]] rfl (by (try simp only [List.map_toArray, List.map_cons, List.map_nil]); first | done | rfl | (simp only [List.length_drop, List.length_take]; rfl)) ?_; (with_reducible refine (barrowlaw02_plays.calls k1 ((rd_T35 l0 x3_1).f0) ((rd_T35 l0 x3_1).f1) ((rd_T35 l0 x3_1).f2) ((rd_T35 l0 x3_1).f3) _ _ ((rd_T35 l0 x3_1).f4) false _ ?tab1_ ?side1 ?side2 A7.out).mono ?_); (case tab1_ => exact tab_keep hTab (by repeat (first | (with_reducible first | exact HB.out | apply below_alloc | apply pw_below_drewN | apply below_drew1) | exact HB.out))); (case side1 => repeat (first | exact (Kd.C_below HR327_4.out HB.out) | (with_reducible refine Kd.C_alloc ?_ _) | (with_reducible refine Kd.C_drewN ?_ _) | (with_reducible refine Kd.C_drew ?_))); (case side2 => exact HC327_4.out); rintro e w10 ⟨rfl, hb⟩; refine ⟨_, rfl, ?_⟩; have n0_ := Aside0.mk (below_step (by repeat (first | (with_reducible first | exact HB.out | apply below_alloc | apply pw_below_drewN | apply below_drew1) | exact HB.out)) hb); clear HB; have HB := n0_; clear n0_; (try clear hb); (try clear hb2); (try clear hk); (try clear hi)))
       go_ret
       exact ⟨by first | rfl | (simp [errW_none, errW_some] <;> rfl) | (simp [*, errW_none, errW_some] <;> rfl), by repeat (first | (with_reducible first | exact HB.out | apply below_alloc | apply pw_below_drewN | apply below_drew1) | exact HB.out)⟩
     ·rw [if_neg c6] at H
      exact absurd H (by simp)
    ·rw [if_neg c5] at H
     have c5b0 : decide (x3_1 < (l0.length : Int)) = false := decide_eq_false c5
     clear c5
     obtain rfl := Option.some.inj H
     go_wp2
     go_ret
     exact ⟨by first | rfl | (simp [errW_none, errW_some] <;> rfl) | (simp [*, errW_none, errW_some] <;> rfl), by repeat (first | (with_reducible first | exact HB.out | apply below_alloc | apply pw_below_drewN | apply below_drew1) | exact HB.out)⟩
 ·rw [if_neg c3] at H
  have c3b0 : (t326 == 1) = false := beq_eq_false_iff_ne.mpr c3
  have c3b1 : (t326 != 1) = true := bne_iff_ne.mpr c3
  obtain rfl := Option.some.inj H
  go_enter Tryz.func8, Tryz.ntmps8
  go_wp2_with (first | ((with_reducible refine gate_callee (f := 14) rfl ?_); refine goesL_ (some 4) rfl rfl Tryz.func14 (by kernel_rfl) rfl #[.string (⟨#[66]⟩ : ByteArray), .string (⟨#[65, 49, 48, 48]⟩ : ByteArray)] rfl (by (try simp only [List.map_toArray, List.map_cons, List.map_nil]); first | done | rfl | (simp only [List.length_drop, List.length_take]; rfl)) ?_; (with_reducible refine (goods_Compare.calls k (⟨#[66]⟩ : ByteArray) (⟨#[65, 49, 48, 48]⟩ : ByteArray) t326 _ A2.out).mono ?_); rintro e w11 ⟨rfl, hb⟩; refine ⟨_, rfl, ?_⟩; have n0_ := Aside0.mk (below_step (by repeat (first | (with_reducible first | exact HB.out | apply below_alloc | apply pw_below_drewN | apply below_drew1) | exact HB.out)) hb); clear HB; have HB := n0_; clear n0_; (try clear hb); (try clear hb2); (try clear hk); (try clear hi)))
  go_ret
  exact ⟨by first | rfl | (simp [errW_none, errW_some] <;> rfl) | (simp [*, errW_none, errW_some] <;> rfl), by repeat (first | (with_reducible first | exact HB.out | apply below_alloc | apply pw_below_drewN | apply below_drew1) | exact HB.out)⟩

end Go.Proofs.YtmicghhmbojkfaaGreatDoor.G

/- The frame of the laws over scripts of calls: every step of some kinds is as the reference has it, if each kind of call is. -/
namespace Go.Proofs.YtmicghhmbojkfaaGreatDoor.Fr
open Go.RowKit Go.Proofs.YtmicghhmbojkfaaGreatDoor.G Go.Proofs.YtmicghhmbojkfaaGreatDoorW.PrintWords Go.Proofs.YtmicghhmbojkfaaGreatDoorW.PrintLast Go.Proofs.YtmicghhmbojkfaaGreatDoorW.PrintMore
/-- What a row's reading says of a step. -/
structure OpOk (x : S35) : Prop where
  a : x.f1.size ≤ 140737488351232
  b : x.f2.size ≤ 140737488351232
  n : -9223372036854775808 ≤ x.f3 ∧ x.f3 ≤ 9223372036854775807
  l : ∀ c ∈ x.f4, -9223372036854775808 ≤ c ∧ c ≤ 9223372036854775807
  m : x.f4.length ≤ 17592186043904
/-- A step is as the reference has it. -/
def PlayOk (x : S35) : Prop := Ev (fun k => barrowlaw02_plays.f k x.f0 x.f1 x.f2 x.f3 x.f4) true
theorem plays_of (x : S35)
    (h1 : x.f0 = 1 ∨ x.f0 = 2 ∨ x.f0 = 11 → Ev (fun k => barrowlaw02_name.f k x.f0 x.f1 x.f2 x.f3 x.f4) true)
    (h2 : x.f0 = 3 ∨ x.f0 = 4 ∨ x.f0 = 5 → Ev (fun k => barrowlaw02_article.f k x.f0 x.f1 x.f2 x.f3 x.f4) true)
    (h3 : x.f0 = 6 ∨ x.f0 = 12 → Ev (fun k => barrowlaw02_match.f k x.f1 x.f2) true)
    (h4 : x.f0 = 12 → Ev (fun k => barrowlaw02_match.f k x.f2 x.f2) true)
    (h5 : x.f0 = 7 → ∃ c, Ev (fun k => goods_Compare.f k x.f1 x.f2) c ∧ Ev (fun k => barrowref02_Compare.f k x.f1 x.f2) c)
    (h6 : x.f0 = 8 ∨ x.f0 = 9 ∨ x.f0 = 10 → Ev (fun k => barrowlaw02_quantity.f k x.f0 x.f1 x.f2 x.f3 x.f4) true) : PlayOk x := by
  unfold PlayOk
  have now : ∀ g : Nat → Option Bool, Ev g true → Ev (fun k => (g k).bind fun t => some t) true := fun g h => Ev.bind h (Ev.now true)
  by_cases c1 : x.f0 = 1 ∨ x.f0 = 2 ∨ x.f0 = 11
  · refine Ev.step (f := fun k => (barrowlaw02_name.f k x.f0 x.f1 x.f2 x.f3 x.f4).bind fun t => some t) (fun k => ?_) (now _ (h1 c1))
    unfold barrowlaw02_plays.f
    by_cases e1 : x.f0 = 1
    · rw [if_pos e1, barrowlaw02_plays.j0, if_pos (by rw [e1]; rfl)]
    · rw [if_neg e1]
      by_cases e2 : x.f0 = 2
      · rw [if_pos e2, barrowlaw02_plays.j0, if_pos (by rw [e2]; rfl)]
      · rw [if_neg e2, barrowlaw02_plays.j0, if_pos (by rw [show x.f0 = 11 by omega]; rfl)]
  · have base : ∀ k b, barrowlaw02_plays.f (k + 1 + 1) x.f0 x.f1 x.f2 x.f3 x.f4 = (if x.f0 = 3 then barrowlaw02_plays.j1 (k + 1) x.f0 (x.f0 == 3) x.f0 x.f1 x.f2 x.f3 x.f4 else if x.f0 = 4 then barrowlaw02_plays.j1 (k + 1) x.f0 (x.f0 == 4) x.f0 x.f1 x.f2 x.f3 x.f4 else barrowlaw02_plays.j1 (k + 1) x.f0 (x.f0 == 5) x.f0 x.f1 x.f2 x.f3 x.f4) ∨ b = true := by
      intro k b
      left
      unfold barrowlaw02_plays.f
      rw [if_neg (by omega), if_neg (by omega), barrowlaw02_plays.j0, if_neg (by simp; omega)]
    by_cases c2 : x.f0 = 3 ∨ x.f0 = 4 ∨ x.f0 = 5
    · refine Ev.step (f := fun k => barrowlaw02_plays.f (k + 1) x.f0 x.f1 x.f2 x.f3 x.f4) (fun k => rfl) (Ev.step (f := fun k => (barrowlaw02_article.f k x.f0 x.f1 x.f2 x.f3 x.f4).bind fun t => some t) (fun k => ?_) (now _ (h2 c2)))
      rw [(base k false).resolve_right (by decide)]
      by_cases e1 : x.f0 = 3
      · rw [if_pos e1, barrowlaw02_plays.j1, if_pos (by rw [e1]; rfl)]
      · rw [if_neg e1]
        by_cases e2 : x.f0 = 4
        · rw [if_pos e2, barrowlaw02_plays.j1, if_pos (by rw [e2]; rfl)]
        · rw [if_neg e2, barrowlaw02_plays.j1, if_pos (by rw [show x.f0 = 5 by omega]; rfl)]
    · have base2 : ∀ k, barrowlaw02_plays.f (k + 1 + 1) x.f0 x.f1 x.f2 x.f3 x.f4 = barrowlaw02_plays.j1 (k + 1) x.f0 false x.f0 x.f1 x.f2 x.f3 x.f4 := by
        intro k
        rw [(base k false).resolve_right (by decide), if_neg (by omega), if_neg (by omega), show (x.f0 == 5) = false from by simp; omega]
      have go : ∀ f : Nat → Option Bool, (∀ k, barrowlaw02_plays.j1 (k + 1) x.f0 false x.f0 x.f1 x.f2 x.f3 x.f4 = f k) → Ev f true → Ev (fun k => barrowlaw02_plays.f k x.f0 x.f1 x.f2 x.f3 x.f4) true :=
        fun f hf h => Ev.step (f := fun k => barrowlaw02_plays.f (k + 1) x.f0 x.f1 x.f2 x.f3 x.f4) (fun k => rfl) (Ev.step (f := f) (fun k => (base2 k).trans (hf k)) h)
      by_cases c6 : x.f0 = 6
      · refine go (fun k => (barrowlaw02_match.f k x.f1 x.f2).bind fun t => some t) (fun k => ?_) (now _ (h3 (.inl c6)))
        rw [barrowlaw02_plays.j1, if_neg (by decide), if_pos c6]
      · by_cases c12 : x.f0 = 12
        · refine go (fun k => (barrowlaw02_match.f k x.f1 x.f2).bind fun t => if t = true then (barrowlaw02_match.f k x.f2 x.f2).bind fun t => some t else some false) (fun k => ?_) (Ev.bind (h3 (.inr c12)) (Ev.congr (fun k => if_pos rfl) (now _ (h4 c12))))
          rw [barrowlaw02_plays.j1, if_neg (by decide), if_neg c6, if_pos c12]
        · by_cases c7 : x.f0 = 7
          · obtain ⟨c, g1, g2⟩ := h5 c7
            refine go (fun k => (goods_Compare.f k x.f1 x.f2).bind fun t => (barrowref02_Compare.f k x.f1 x.f2).bind fun u => some (t == u)) (fun k => ?_) (Ev.bind g1 (Ev.bind g2 (Ev.congr (fun k => by simp) (Ev.now true))))
            rw [barrowlaw02_plays.j1, if_neg (by decide), if_neg c6, if_neg c12, if_pos c7]
          · by_cases c8 : x.f0 = 8 ∨ x.f0 = 9 ∨ x.f0 = 10
            · refine go (fun k => (barrowlaw02_quantity.f k x.f0 x.f1 x.f2 x.f3 x.f4).bind fun t => some t) (fun k => ?_) (now _ (h6 c8))
              rw [barrowlaw02_plays.j1, if_neg (by decide), if_neg c6, if_neg c12, if_neg c7]
              by_cases e1 : x.f0 = 8
              · rw [if_pos e1]
              · rw [if_neg e1]
                by_cases e2 : x.f0 = 9
                · rw [if_pos e2]
                · rw [if_neg e2, if_pos (by omega)]
            · refine go (fun _ => some true) (fun k => ?_) (Ev.now true)
              rw [barrowlaw02_plays.j1, if_neg (by decide), if_neg c6, if_neg c12, if_neg c7, if_neg (by omega), if_neg (by omega), if_neg (by omega)]
theorem rd_at (xs : List S35) (i : Nat) (h : i < xs.length) : rd_T35 xs (i : Int) = xs[i] := by
  unfold rd_T35
  rw [Int.toNat_natCast, List.getD_eq_getElem?_getD, List.getElem?_eq_getElem h]; rfl
theorem wrap_up (i : Nat) (h : i < 1152921504606846976) : wrap64 ((i : Int) + 1) = ((i + 1 : Nat) : Int) := by unfold wrap64; omega
end Go.Proofs.YtmicghhmbojkfaaGreatDoor.Fr
