/- barrowlaw02.apart: it answers true. -/
import Derived.Test.YthkpmldjbogngaaDoorApJ
import Derived.Deep.RegionHeld3
import Derived.Deep.AppendLies
namespace Go.Proofs.YthkpmldjbogngaaDoor.S
open Go.RowKit Go.Proofs.YthkpmldjbogngaaDoorW.PrintWords Go.Proofs.YthkpmldjbogngaaDoorW.PrintLast Go.Proofs.YthkpmldjbogngaaDoorW.PrintMore
attribute [local go_sem] max2_int min2_int max_two min_two max_three min_three max_four min_four
set_option linter.unusedVariables false
set_option linter.unusedSimpArgs false
theorem AL.cell2 {A : Nat → Option Addr} {n c C : Nat → Nat} {gl B0 : Nat} {w0 w : World} {X : Nat → List ByteArray} (h : AL A n c C gl B0 w0 X w) {k i g : Nat} (hk : k < 4) (hi : i < n k) (hg : A k = some ⟨g, 0, none⟩) :
    w.cell? ⟨g, i, none⟩ = some (.string ((X k).getD i ByteArray.empty)) ∧ w.frozen? ⟨g, i, none⟩ = false := by
  obtain ⟨g', e, h1, h2⟩ := h.at_ k i hk hi
  rw [hg] at e
  injection e with e
  injection e with e
  subst e
  exact ⟨h1, h2⟩
theorem rep_of {l : List ByteArray} {m : Nat} {x : ByteArray} (hl : l.length = m) (h : ∀ p, p < m → l[p]? = some x) : l = List.replicate m x := by
  apply List.ext_getElem?
  intro p
  by_cases hp : p < m
  · rw [h p hp, List.getElem?_replicate, if_pos hp]
  · rw [List.getElem?_eq_none (by omega), List.getElem?_eq_none (by simp; omega)]
theorem repv_of {l : List Value} {m : Nat} {x : Value} (hl : l.length = m) (h : ∀ p, p < m → l[p]? = some x) : l = List.replicate m x := by
  apply List.ext_getElem?
  intro p
  by_cases hp : p < m
  · rw [h p hp, List.getElem?_replicate, if_pos hp]
  · rw [List.getElem?_eq_none (by omega), List.getElem?_eq_none (by simp; omega)]
theorem set_of {l : List ByteArray} {m i : Nat} {x : ByteArray} (hl : l.length = m) (hi : i < m) (h : ∀ p, p < i → l[p]? = some x) : ∀ p, p < i + 1 → (l.set i x)[p]? = some x := by
  intro p hp
  by_cases e : p = i
  · subst e; rw [List.getElem?_set_self (by omega)]
  · rw [List.getElem?_set_ne (by omega)]; exact h p (by omega)
set_option maxHeartbeats 4000000 in
set_option maxRecDepth 100000 in
theorem apart_calls (A : Nat → Option Addr) (n c C : Nat → Nat) (gl B0 g3 : Nat) (X : Nat → List ByteArray) (w : World) (hs : ST A n c C g3) (h : AL A n c C gl B0 w X w) (hgl : B0 ≤ gl) :
    Calls Tryd.prog 8 #[.slice (some ⟨gl, 0, none⟩) 4 4] w fun e w' => e = .returned (.bool true) ∧ Below B0 w w' := by
  have HS := Aside0.mk hs
  have HA := Aside0.mk h
  clear hs h
  go_enter Tryd.func8, Tryd.ntmps8
  go_wp2
  go_loopw [3] (fun v wr => ∃ k : Nat, k ≤ 4 ∧ v = .int .i64 k ∧ Aside0 (∃ Y, AL A n c C gl B0 w Y wr ∧ ∀ j, j < k → Y j = List.replicate (n j) (dS j))) (fun v _ => 4 - (intOf v).toNat)
  case atStart => exact ⟨0, Nat.zero_le _, rfl, ⟨X, HA.out, fun j hj => absurd hj (Nat.not_lt_zero _)⟩⟩
  case round =>
    obtain ⟨k, hk, rfl, hR⟩ := hrel
    by_cases hk4 : k < 4
    · have hl1 : ((k : Int) < 4) = True := eq_true (by omega)
      have hl0 : (0 : Int) ≤ (k : Int) := by omega
      have hNk := HS.out.hn k hk4
      go_wp2
      go_loopw [4] (fun v wr => ∃ i : Nat, i ≤ n k ∧ v = .int .i64 i ∧ Aside0 (∃ Y, AL A n c C gl B0 w Y wr ∧ (∀ j, j < k → Y j = List.replicate (n j) (dS j)) ∧ ∀ p, p < i → (Y k)[p]? = some (dS k))) (fun v _ => n k - (intOf v).toNat)
      case atStart =>
        obtain ⟨Y, h1, h2⟩ := hR.out
        exact ⟨0, Nat.zero_le _, rfl, ⟨Y, h1, h2, fun p hp => absurd hp (Nat.not_lt_zero _)⟩⟩
      case round =>
        obtain ⟨i, hi, rfl, hQ⟩ := hrel
        obtain ⟨Y, hY, hY1, hY2⟩ := hQ.out
        have HY := Aside0.mk hY
        have HY1 := Aside0.mk hY1
        have HY2 := Aside0.mk hY2
        clear hQ hY hY1 hY2
        have cl := HY.out.cell k hk4
        have hli : (0 : Int) ≤ (i : Int) := by omega
        by_cases hin : i < n k
        · obtain ⟨g, hg, hc1, hf1⟩ := HY.out.at_ k i hk4 hin
          have hl2 : ((i : Int) < (n k : Int)) = True := eq_true (by omega)
          rw [hg] at cl
          go_upto_region 7 with (fail)
          have cl2 := cl
          have hq : IntKind.u32.wrap (k : Int) = (k : Int) := u32w k hk4
          have hgi := HY.out
          go_region_held3 (fun w' => w'.cell? ⟨gl, k, none⟩ = some (.slice (some ⟨g, 0, none⟩) (n k) (c k))) (first | exact cl | exact (HY.out.cell k hk4).trans (by rw [hg]) | exact ((HY.out.store HS.out k i g (dS k) hk4 hg).cell k hk4).trans (by rw [hg]) | go_keep) ((first | ((with_reducible refine (barrowlaw02_decimal.calls 20 _ 1 (dS k) _ (dec1 k hk4)).mono ?_); rintro e w2 ⟨rfl, hbb⟩; replace HY := Aside0.mk (HY.out.below (Below.trans (below_drew (Below.refl _ _)) hbb)); obtain ⟨hx1, hx2⟩ := HY.out.cell2 hk4 hin hg; clear hbb)))
          rename_i hHld
          clear hHld
          have HZ := Aside0.mk (HY.out.store HS.out k i g (dS k) hk4 hg)
          have HT := Aside0.mk (set_of (HY.out.len k hk4) hin HY2.out)
          clear cl cl2 hx1 hx2 hc1 hf1 hgi
          go_wp2
          go_roundw
          case rel => exact ⟨i + 1, by omega, by go_num, ⟨_, HZ.out, fun j hj => by rw [if_neg (by omega)]; exact HY1.out j hj, fun p hp => by rw [if_pos rfl]; exact HT.out p hp⟩⟩
          case measure => simp [intOf]; omega
        · have hl2 : ((i : Int) < (n k : Int)) = False := eq_false (by omega)
          have HE := Aside0.mk (rep_of (HY.out.len k hk4) (fun p hp => HY2.out p (by omega)))
          go_wp2
          go_roundw
          case rel => exact ⟨k + 1, by omega, by go_num, ⟨_, HY.out, fun j hj => by
            rcases Nat.lt_or_ge j k with h1 | h1
            · exact HY1.out j h1
            · obtain rfl : j = k := by omega
              exact HE.out⟩⟩
          case measure => simp [intOf]; omega
    · have hl1 : ((k : Int) < 4) = False := eq_false (by omega)
      obtain rfl : k = 4 := by omega
      obtain ⟨Y, hY, hY1⟩ := hR.out
      have HY := Aside0.mk hY
      have HY1 := Aside0.mk hY1
      clear hR hY hY1
      obtain ⟨i9, hi9, hz9, hz91, hz92⟩ := info_parts info9
      obtain ⟨i22, hi22, hz22, hz221, hz222⟩ := info_parts info22
      have HG0 := Aside0.mk (show GS A n c C gl B0 g3 w Y (.slice none 0 0) [] wr from ⟨HY.out, own_nil _ _ _ _, fun i hi => absurd hi (Nat.not_lt_zero _)⟩)
      have hglt : gl < wr.heap.size := blk_lt HY.out.bl
      have HRP := Aside0.mk (show ∀ j, j < 4 → Y j = List.replicate (n j) (dS j) from fun j hj => HY1.out j hj)
      go_wp2
      go_loopw [5, 6] (fun vG v wg => ∃ (V : Value) (k : Nat), V = vG ∧ k ≤ 4 ∧ v = .int .i64 k ∧ Aside0 (∃ vals, vals.length = 17 * k ∧ GS A n c C gl B0 g3 w Y vG vals wg)) (fun _ v _ => 4 - (intOf v).toNat)
      case atStart => exact ⟨_, 0, rfl, Nat.zero_le _, rfl, ⟨[], rfl, HG0.out⟩⟩
      case round =>
        obtain ⟨VG, k, rfl, hk, rfl, hQ⟩ := hrel
        by_cases hk4 : k < 4
        · obtain ⟨vals, hvl, hG⟩ := hQ.out
          have HG := Aside0.mk hG
          have HVL := Aside0.mk hvl
          clear hQ hvl hG HY HG0 hglt
          have hl1 : ((k : Int) < 4) = True := eq_true (by omega)
          have hl0 : (0 : Int) ≤ (k : Int) := by omega
          have hNk := HS.out.hn k hk4
          have hq : IntKind.u32.wrap (k : Int) = (k : Int) := u32w k hk4
          have S1 : True := trivial
          go_wp2_with (first | (clear S1; go_at_call 17; refine (barrowlaw02_decimal.calls 20 _ 0 (eS k) _ (dec0 k hk4)).mono ?_; rintro e w2 ⟨rfl, hbb⟩; replace HG := Aside0.mk (HG.out.below hbb); clear hbb) | go_in)
          clear hq
          go_loopw [5, 8] (fun vG v wg => ∃ (V : Value) (m : Nat), V = vG ∧ 1 ≤ m ∧ m ≤ 17 ∧ v = .int .i64 m ∧ Aside0 (∃ vals, vals.length = 17 * k + (m - 1) ∧ GS A n c C gl B0 g3 w Y vG vals wg)) (fun _ v _ => 17 - (intOf v).toNat)
          case atStart => exact ⟨_, 1, rfl, by omega, by omega, rfl, ⟨vals, HVL.out, HG.out⟩⟩
          case round =>
            clear HG HVL
            obtain ⟨VG1, m, rfl, hm1, hm2, rfl, hP⟩ := hrel
            obtain ⟨vals, hvl, hG⟩ := hP.out
            have HG := Aside0.mk hG
            have HVL := Aside0.mk hvl
            clear hP hvl hG
            by_cases hm : m ≤ 16
            · have hl2 : ((m : Int) ≤ 16) = True := eq_true (by omega)
              have cl := HG.out.al.cell k hk4
              go_wp2
              clear cl
              go_loopw [9, 10] (fun v u w5 => ∃ (V : Value) (j : Nat), V = v ∧ j ≤ m ∧ u = .int .i64 j ∧ Aside0 (J5 A n c C gl B0 g3 w Y VG1 vals wr k j V w5)) (fun _ u _ => m - (intOf u).toNat)
              case atStart => exact ⟨_, 0, rfl, Nat.zero_le _, rfl, ⟨J5.start HS.out HG.out hk4⟩⟩
              case round =>
                obtain ⟨v, j, rfl, hj, rfl, hJ⟩ := hrel
                have hl4 : (0 : Int) ≤ (j : Int) := by omega
                by_cases hjm : j < m
                · have hl3 : ((j : Int) < (m : Int)) = True := eq_true (by omega)
                  rcases hJ.out with ⟨e3, rfl, rfl, hb⟩ | ⟨e3, hj0, ho, hb⟩ | ⟨ek, rfl, hg, hI⟩
                  · clear hJ
                    have HB := Aside0.mk hb
                    clear hb
                    have S2 : True := trivial
                    go_wp2_with (first | (clear S2; (with_reducible refine gate_builtin (b := .append) (xs := #[.tmp 65, .tmp 67]) rfl ?_); at_builtin; refine wpList_append_grows _ rfl (.tmp 65) (.tmp 67) 22 rfl 9 i9 (.string ⟨#[]⟩) 1 16 Tryd.underlying22 hi9 hz9 hz91 hz92 rfl (by decide) (A k) (n k) (n k) ((Y k).map Value.string) rfl ?gn ?gl ?gh ⟨wr.heap.size, 0, none⟩ 1 1 [.string (mS k)] rfl rfl (cell_one_new _ _ _) ?g1 (by omega) (by unfold maxLen; omega) (by omega) ?_; (case gn => exact fun e => ⟨((HG.out.below HB.out).al.none_ HS.out hk4 e).1, ((HG.out.below HB.out).al.none_ HS.out hk4 e).1⟩); (case gl => rw [List.length_map, (HG.out.al.len k hk4), Nat.mul_one]); (case gh => exact fun b hb j u hu => Lib.cell?_alloc_some _ ((HG.out.below HB.out).al.olds hk4 b hb j u hu)); (case g1 => intro u hu; rw [List.mem_singleton.1 hu]; rfl); intro v' w' ho hg; have HJ := Aside0.mk (J5.next1 (A := A) (n := n) (c := c) (C := C) (gl := gl) (B0 := B0) (g3 := g3) (w0 := w) (Y := Y) (vG := VG1) (vals := vals) HB.out e3 ho hg); clear ho hg) | go_in)
                    go_roundw
                    case rel => exact ⟨v', 0 + 1, rfl, by omega, by go_num, HJ⟩
                    case measure => simp [intOf]; omega
                  · clear hJ
                    have HB := Aside0.mk hb
                    have HO := Aside0.mk ho
                    clear hb ho
                    have S2 : True := trivial
                    go_wp2_with (first | (clear S2; (with_reducible refine gate_builtin (b := .append) (xs := #[.tmp 65, .tmp 67]) rfl ?_); at_builtin; refine wpList_append_own _ rfl (.tmp 65) (.tmp 67) 22 rfl _ 9 i9 (.string ⟨#[]⟩) 1 16 Tryd.underlying22 hi9 hz9 hz91 hz92 rfl (by decide) v (n k + j) _ rfl (own_alloc HO.out _) ⟨wr.heap.size, 0, none⟩ 1 1 [.string (mS k)] rfl rfl (cell_one_new _ _ _) ?g1 (by unfold maxLen; omega) (by omega) ?gb ?_; (case g1 => intro u hu; rw [List.mem_singleton.1 hu]; rfl); (case gb => exact Nat.le_trans HB.out.size (by simp)); intro v' w' ho hg _; have HJ := Aside0.mk (J5.next2 (A := A) (n := n) (c := c) (C := C) (gl := gl) (B0 := B0) (g3 := g3) (w0 := w) (Y := Y) (vG := VG1) (vals := vals) HB.out e3 HO.out ho hg); clear ho hg) | go_in)
                    go_roundw
                    case rel => exact ⟨v', j + 1, rfl, by omega, by go_num, HJ⟩
                    case measure => simp [intOf]; omega
                  · clear hJ
                    have HG3 := Aside0.mk hg
                    have HK := Aside0.mk ek
                    have HMK := Aside0.mk (show mS k = mS 3 by rw [ek])
                    clear ek
                    have HI := Aside0.mk hI
                    obtain ⟨cur, hcur, hcs, _⟩ := hI
                    have HCUR : Aside0 (∀ o, (wr.alloc o).heap[g3]? = some (.cells cur 9 (0, 0))) := ⟨fun o => blk_below hcur (below_alloc (Below.refl _ wr) o)⟩
                    clear hg hcur
                    have S2 : True := trivial
                    go_wp2_with (first | (clear S2; (with_reducible refine gate_builtin (b := .append) (xs := #[.tmp 65, .tmp 67]) rfl ?_); at_builtin; refine wpList_append_in rfl (.tmp 65) (.tmp 67) 22 rfl 9 i9 Tryd.underlying22 hi9 hz91 (HCUR.out _) rfl (ad := ⟨wr.heap.size, 0, none⟩) (c := 1) (u := .string (mS k)) rfl (cell_one_new _ _ _) rfl (by omega) (by omega) ?_; have HJ := Aside0.mk (GS.put4 HS.out HMK.out HG3.out HI.out (show j < 16 by omega))) | go_in)
                    go_roundw
                    case rel => exact ⟨_, j + 1, rfl, by omega, by go_num, ⟨.inr (.inr ⟨HK.out, rfl, (HJ.out _).1, (HJ.out _).2⟩)⟩⟩
                    case measure => simp [intOf]; omega
                · have hl3 : ((j : Int) < (m : Int)) = False := eq_false (by omega)
                  obtain rfl : j = m := by omega
                  have hg5 := hJ.out.gs HG.out
                  have HG5 := Aside0.mk hg5
                  have HM := Aside0.mk (hJ.out.gm HS.out HG.out hk4 (by omega) hm)
                  have HVB := Aside0.mk (show vals.length ≤ 67 by have := HVL.out; omega)
                  have HV17 := Aside0.mk (show vals.length / 17 = k by have := HVL.out; omega)
                  clear hg5 hJ HG
                  obtain ⟨Av, lv, cv, rfl⟩ : ∃ A l c, v = .slice A l c := by obtain ⟨A', l', c', e, _⟩ := HM.out; exact ⟨_, _, _, e⟩
                  have S2 : True := trivial
                  go_wp2_with (first | (clear S2; (with_reducible refine gate_builtin (b := .append) (xs := #[.tmp 69, .tmp 71]) rfl ?_); at_builtin; refine wpList_append_own _ rfl (.tmp 69) (.tmp 71) 27 rfl (gl + 1) 22 i22 (.slice none 0 0) 1 24 Tryd.underlying27 hi22 hz22 hz221 hz222 rfl (by decide) VG1 vals.length vals rfl (own_alloc HG5.out.own _) ⟨wr.heap.size, 0, none⟩ 1 1 [.slice Av lv cv] rfl rfl (cell_one_new _ _ _) ?g1 (by have := HVB.out; unfold maxLen; omega) (by have := HVB.out; omega) ?gb ?_; (case g1 => (intro u hu; rw [List.mem_singleton.1 hu]; rfl)); (case gb => exact Nat.le_trans (blk_lt HG5.out.al.bl) (by simp)); intro v' w' ho hg _; have HJ := Aside0.mk (GS.push (HG5.out.below (below_alloc (Below.refl _ _) _)) hgl ho hg (by rw [HV17.out]; exact HM.out.below (below_alloc (Below.refl _ _) _))); clear ho hg) | go_in)
                  go_roundw
                  case rel => exact ⟨v', j + 1, rfl, by omega, by omega, by go_num, ⟨_, by rw [List.length_append, HVL.out]; simp; omega, HJ.out⟩⟩
                  case measure => simp [intOf]; omega
            · obtain rfl : m = 17 := by omega
              have hl2 : (((17 : Nat) : Int) ≤ 16) = False := eq_false (by omega)
              have S3 : True := trivial
              go_wp2_with (first | (clear S3; (with_reducible refine gate_dst (N := 73) rfl ?_); refine wpList_make1 rfl 22 _ _ rfl 9 i9 (.string ⟨#[]⟩) Tryd.underlying22 hi9 hz9 hz91 rfl 64 rfl rfl (by rw [hz92]; omega) (by unfold maxLen; omega) ?_; intro w6 ho6 hg6; have HB6 := Aside0.mk ((Below.refl _ wr).grown hg6 (Nat.le_refl _) (fun b e => by cases e)); have HO6 := Aside0.mk ho6; clear ho6 hg6) | go_in)
              generalize hgm : wr.heap.size = gm at HO6 HB6 ⊢
              have HGM := Aside0.mk hgm
              clear hgm
              go_loopw [12] (fun v w7 => ∃ i : Nat, i ≤ 64 ∧ v = .int .i64 i ∧ Aside0 (Below gm wr w7 ∧ ∃ xs, w7.ownsRow gm 9 1 (.slice (some ⟨gm, 0, none⟩) 64 64) 64 xs ∧ ∀ p, p < i → xs[p]? = some (.string (mS k)))) (fun v _ => 64 - (intOf v).toNat)
              case atStart => exact ⟨0, Nat.zero_le _, rfl, ⟨HB6.out, _, HO6.out, fun p hp => absurd hp (Nat.not_lt_zero _)⟩⟩
              case round =>
                obtain ⟨i, hi, rfl, hM⟩ := hrel
                obtain ⟨hb, xs, ho, hx⟩ := hM.out
                have HB := Aside0.mk hb
                have HO := Aside0.mk ho
                have HX := Aside0.mk hx
                clear hM hb ho hx
                by_cases hi6 : i < 64
                · have hl3 : ((i : Int) < 64) = True := eq_true (by omega)
                  have hl4 : (0 : Int) ≤ (i : Int) := by omega
                  have hxl := HO.out.1
                  have f1 := HO.out.frozenAt i
                  have hc1 : wr.cell? ⟨gm, i, none⟩ = some (xs.getD i undef) := (HO.out.cellAt i (by omega)).trans (by rw [List.getD_eq_getElem?_getD, List.getElem?_eq_getElem (by omega)]; rfl)
                  clear hxl
                  go_wp2
                  go_roundw
                  case rel => exact ⟨i + 1, by omega, by go_num, ⟨HB.out.grown (HO.out.stored i (.string (mS k))).2 (by have := HB.out.size; have := HGM.out; omega) (fun b e => by cases e; exact Nat.le_refl _), _, (HO.out.stored i (.string (mS k))).1, fun p hp => by
                    by_cases e : p = i
                    · subst e; rw [List.getElem?_set_self (by have := HO.out.1; omega)]
                    · rw [List.getElem?_set_ne (by omega)]; exact HX.out p (by omega)⟩⟩
                  case measure => simp [intOf]; omega
                · obtain rfl : i = 64 := by omega
                  have hl3 : (((64 : Nat) : Int) < 64) = False := eq_false (by omega)
                  have HG7 := Aside0.mk (HG.out.below (show Below (World.heap _).size _ wr by rw [HGM.out]; exact HB.out))
                  have HXR := Aside0.mk (show xs = List.replicate 64 (.string (mS k)) from repv_of (by have := HO.out.1; omega) (fun p hp => HX.out p hp))
                  have HVB := Aside0.mk (show vals.length ≤ 67 by have := HVL.out; omega)
                  have HV17 := Aside0.mk (show vals.length / 17 = k by have := HVL.out; omega)
                  have hck : c k < n k + 64 := by
                    by_cases e : k = 3
                    · subst e; rw [HS.out.c3]; omega
                    · rw [HS.out.cut k (by omega)]; omega
                  have cl := HG7.out.al.cell k hk4
                  have S4 : True := trivial
                  have S5 : True := trivial
                  go_wp2_with (first
                    | (clear S4; (with_reducible refine gate_builtin (b := .append) (xs := #[.tmp 86, .tmp 87]) rfl ?_); at_builtin; refine wpList_append_grows _ rfl (.tmp 86) (.tmp 87) 22 rfl 9 i9 (.string ⟨#[]⟩) 1 16 Tryd.underlying22 hi9 hz9 hz91 hz92 rfl (by decide) (A k) (n k) (c k) ((Y k).map Value.string) rfl ?gn ?gl ?gh ⟨gm, 0, none⟩ 64 64 xs rfl ?gx ?gc ?g1 hck (by unfold maxLen; omega) (by omega) ?_; (case gn => exact fun e => HG7.out.al.none_ HS.out hk4 e); (case gl => rw [List.length_map, (HG7.out.al.len k hk4), Nat.mul_one]); (case gh => exact fun b hb j u hu => HG7.out.al.olds hk4 b hb j u hu); (case gx => exact HO.out.1); (case gc => intro j u hu; rw [add_plain, HO.out.cellAt j (by have := (List.getElem?_eq_some_iff.1 hu).1; have := HO.out.1; omega)]; exact hu); (case g1 => intro u hu; rw [HXR.out] at hu; rw [(List.mem_replicate.1 hu).2]; rfl); intro v' w' ho hg; obtain ⟨Av, cv, rfl⟩ := own_slice ho; have HM := Aside0.mk (Gm.own (g3 := g3) (m3 := .string (mS 3)) (mk := .string (mS k)) (show w'.ownsRow wr.heap.size 9 1 _ (n k + 64) ((Y k).map Value.string ++ List.replicate 64 (.string (mS k))) from HXR.out ▸ ho) (by rw [List.length_map]; exact HG7.out.al.len k hk4) (by omega) (fun b hb e => by (have h1 := own_base ho b hb); (have hr := HG7.out.al.row 3 (by omega)); rw [HS.out.a3] at hr; (have h2 := own_lt hr g3 rfl); omega)); have HG8 := Aside0.mk (HG7.out.below ((Below.refl _ wr).grown hg (Nat.le_refl _) (fun b e => by cases e))); clear ho hg cl)
                    | (clear S5; (with_reducible refine gate_builtin (b := .append) (xs := #[.tmp 82, .tmp 89]) rfl ?_); at_builtin; refine wpList_append_own _ rfl (.tmp 82) (.tmp 89) 27 rfl (gl + 1) 22 i22 (.slice none 0 0) 1 24 Tryd.underlying27 hi22 hz22 hz221 hz222 rfl (by decide) VG1 vals.length vals rfl (own_alloc HG8.out.own _) ⟨w'.heap.size, 0, none⟩ 1 1 [.slice Av (n k + 64) cv] rfl rfl (cell_one_new _ _ _) ?g1 (by have := HVB.out; unfold maxLen; omega) (by have := HVB.out; omega) ?gb ?_; (case g1 => (intro u hu; rw [List.mem_singleton.1 hu]; rfl)); (case gb => exact Nat.le_trans (blk_lt HG8.out.al.bl) (by simp)); intro v2 w2 ho hg _; have HJ := Aside0.mk (GS.push (HG8.out.below (below_alloc (Below.refl _ _) _)) hgl ho hg (by rw [HV17.out]; exact HM.out.below (below_alloc (Below.refl _ _) _))); clear ho hg)
                    | go_in)
                  go_roundw
                  case rel => (repeat apply Exists.intro); exact ⟨⟨v2, k + 1, rfl, by omega, by go_num, ⟨_, by rw [List.length_append, HVL.out]; simp; omega, HJ.out⟩⟩, rfl⟩
                  case measure => simp [intOf]; omega
        · obtain rfl : k = 4 := by omega
          have hl1 : (((4 : Nat) : Int) < 4) = False := eq_false (by omega)
          obtain ⟨vals, hvl, hG⟩ := hQ.out
          have HG := Aside0.mk hG
          have HVL := Aside0.mk (show vals.length = 68 by omega)
          clear hQ hvl hG HY HG0 hglt
          obtain ⟨gv, cv, rfl⟩ := vg_form HG.out.own (by have := HVL.out; omega)
          go_wp2
          go_loopw [13] (fun v wg => ∃ k : Nat, k ≤ 4 ∧ v = .int .i64 k ∧ Aside0 (GS A n c C gl B0 g3 w Y (.slice (some ⟨gv, 0, none⟩) vals.length cv) vals wg)) (fun v _ => 4 - (intOf v).toNat)
          case atStart => exact ⟨0, Nat.zero_le _, rfl, HG⟩
          case round =>
            clear HG
            obtain ⟨k, hk, rfl, HG⟩ := hrel
            by_cases hk4 : k < 4
            · have hl2 : ((k : Int) < 4) = True := eq_true (by omega)
              have hl0 : (0 : Int) ≤ (k : Int) := by omega
              have hNk := HS.out.hn k hk4
              go_wp2
              go_loopw [14] (fun v wg => ∃ i : Nat, i ≤ n k ∧ v = .int .i64 i ∧ Aside0 (GS A n c C gl B0 g3 w Y (.slice (some ⟨gv, 0, none⟩) vals.length cv) vals wg)) (fun v _ => n k - (intOf v).toNat)
              case atStart => exact ⟨0, Nat.zero_le _, rfl, HG⟩
              case round =>
                clear HG
                obtain ⟨i, hi, rfl, HG⟩ := hrel
                have cl := HG.out.al.cell k hk4
                have hli : (0 : Int) ≤ (i : Int) := by omega
                by_cases hin : i < n k
                · obtain ⟨g, hg, hc1, hf1⟩ := HG.out.al.at_ k i hk4 hin
                  have hl3 : ((i : Int) < (n k : Int)) = True := eq_true (by omega)
                  rw [hg] at cl
                  have hd : (Y k).getD i ByteArray.empty = dS k := by
                    rw [HRP.out k hk4, List.getD_eq_getElem?_getD, List.getElem?_replicate, if_pos hin]; rfl
                  rw [hd] at hc1
                  clear hd hf1
                  go_upto_region 34 with (fail)
                  have cl2 := cl
                  have hq : IntKind.u32.wrap (k : Int) = (k : Int) := u32w k hk4
                  go_region_held3 (fun w' => w'.cell? ⟨gl, k, none⟩ = some (.slice (some ⟨g, 0, none⟩) (n k) (c k)) ∧ w'.cell? ⟨g, i, none⟩ = some (.string (dS k))) (first | exact ⟨cl, hc1⟩ | (refine ⟨(HG.out.al.cell k hk4).trans (by rw [hg]), ?_⟩; have hd : (Y k).getD i ByteArray.empty = dS k := (by rw [HRP.out k hk4, List.getD_eq_getElem?_getD, List.getElem?_replicate, if_pos hin]; rfl); rw [(HG.out.al.cell2 hk4 hin hg).1, hd]) | go_keep) ((first | ((with_reducible refine (barrowlaw02_decimal.calls 20 _ 1 (dS k) _ (dec1 k hk4)).mono ?_); rintro e w2 ⟨rfl, hbb⟩; replace HG := Aside0.mk (HG.out.below (Below.trans (below_drew (Below.refl _ _)) hbb)); clear hbb)))
                  rename_i hHld
                  clear hHld
                  go_wp2
                  go_roundw
                  case rel => (repeat apply Exists.intro); exact ⟨⟨i + 1, by omega, by go_num, HG⟩, rfl⟩
                  case measure => simp [intOf]; omega
                · have hl3 : ((i : Int) < (n k : Int)) = False := eq_false (by omega)
                  go_wp2
                  go_roundw
                  case rel => exact ⟨k + 1, by omega, by go_num, HG⟩
                  case measure => simp [intOf]; omega
            · obtain rfl : k = 4 := by omega
              have hl2 : (((4 : Nat) : Int) < 4) = False := eq_false (by omega)
              have hv68 : vals.length = 68 := HVL.out
              have hvn : vals.length ≤ 68 := by omega
              clear hv68
              go_wp2
              go_loopw [15] (fun v wg => ∃ i : Nat, i ≤ vals.length ∧ v = .int .i64 i ∧ Aside0 (GS A n c C gl B0 g3 w Y (.slice (some ⟨gv, 0, none⟩) vals.length cv) vals wg)) (fun v _ => vals.length - (intOf v).toNat)
              case atStart => exact ⟨0, Nat.zero_le _, rfl, HG⟩
              case round =>
                clear HG
                obtain ⟨i, hi, rfl, HG⟩ := hrel
                have hl0 : (0 : Int) ≤ (i : Int) := by omega
                by_cases hiv : i < vals.length
                · have hl3 : ((i : Int) < (vals.length : Int)) = True := eq_true (by omega)
                  obtain ⟨q, hqd⟩ : ∃ q, i / 17 = q := ⟨_, rfl⟩
                  have hq4 : q < 4 := by omega
                  have HQ := Aside0.mk hqd
                  have hdv : (i : Int) / 17 = (q : Int) := by omega
                  have hdt : (i : Int).tdiv 17 = (q : Int) := by rw [Int.tdiv_eq_ediv_of_nonneg hl0]; exact hdv
                  have hq0 : (0 : Int) ≤ (q : Int) := by omega
                  have hNq := HS.out.hn q hq4
                  have cl := HG.out.al.cell q hq4
                  obtain ⟨Ai, len, ci, ev, hnl, hlen⟩ := (HG.out.gm i hiv).len
                  rw [hqd] at hnl
                  have HEV := Aside0.mk ev
                  clear hqd ev
                  go_wp2
                  clear cl
                  go_loopw [17] (fun v wg => ∃ j : Nat, n q ≤ j ∧ j ≤ len ∧ v = .int .i64 j ∧ Aside0 (GS A n c C gl B0 g3 w Y (.slice (some ⟨gv, 0, none⟩) vals.length cv) vals wg)) (fun v _ => len - (intOf v).toNat)
                  case atStart => exact ⟨n q, Nat.le_refl _, hnl, rfl, HG⟩
                  case round =>
                    clear HG
                    obtain ⟨j, hj1, hj2, rfl, HG⟩ := hrel
                    have cv1 := (vg_cell HG.out.own hiv).trans (by rw [HEV.out])
                    have hj0 : (0 : Int) ≤ (j : Int) := by omega
                    by_cases hjl : j < len
                    · have hl4 : ((j : Int) < (len : Int)) = True := eq_true (by omega)
                      have hgm := HG.out.gm i hiv
                      rw [HEV.out, HQ.out] at hgm
                      obtain ⟨b, rfl, hc1⟩ := hgm.at_ hj1 hjl
                      have HMM : Aside0 (∀ W, GS A n c C gl B0 g3 w Y (.slice (some ⟨gv, 0, none⟩) vals.length cv) vals W → W.cell? ⟨gv, i, none⟩ = some (.slice (some ⟨b, 0, none⟩) len ci) ∧ W.cell? ⟨b, j, none⟩ = some (.string ((⟨#[103, 114, 111, 119, 110, 32]⟩ : ByteArray) ++ eS q))) := ⟨fun W hW => by
                        refine ⟨(vg_cell hW.own hiv).trans (by rw [HEV.out]), ?_⟩
                        have hgm := hW.gm i hiv
                        rw [HEV.out, HQ.out] at hgm
                        obtain ⟨b', e, hc⟩ := hgm.at_ hj1 hjl
                        injection e with e
                        injection e with e
                        subst e
                        exact hc⟩
                      obtain ⟨cv2, cv3⟩ := HMM.out _ HG.out
                      clear hc1 hgm cv1
                      go_upto_region 43 with (fail)
                      have hes : (eS q).size = 1 := rfl
                      have hq : IntKind.u32.wrap (q : Int) = (q : Int) := u32w q hq4
                      go_region_held3 (fun w' => w'.cell? ⟨gv, i, none⟩ = some (.slice (some ⟨b, 0, none⟩) len ci) ∧ w'.cell? ⟨b, j, none⟩ = some (.string ((⟨#[103, 114, 111, 119, 110, 32]⟩ : ByteArray) ++ eS q))) (first | exact ⟨cv2, cv3⟩ | exact HMM.out _ HG.out | go_keep) ((first | ((with_reducible refine (barrowlaw02_decimal.calls 20 _ 0 (eS q) _ (dec0 q hq4)).mono ?_); rintro e w2 ⟨rfl, hbb⟩; replace HG := Aside0.mk (HG.out.below (Below.trans (below_drew (Below.refl _ _)) hbb)); clear hbb)))
                      rename_i hHld
                      clear hHld
                      go_wp2
                      go_roundw
                      case rel => (repeat apply Exists.intro); exact ⟨⟨j + 1, by omega, by omega, by go_num, HG⟩, rfl⟩
                      case measure => simp [intOf]; omega
                    · have hl4 : ((j : Int) < (len : Int)) = False := eq_false (by omega)
                      go_wp2
                      go_roundw
                      case rel => exact ⟨i + 1, by omega, by go_num, HG⟩
                      case measure => simp [intOf]; omega
                · have hl3 : ((i : Int) < (vals.length : Int)) = False := eq_false (by omega)
                  go_wp2
                  go_ret
                  exact ⟨rfl, HG.out.al.bw⟩

end Go.Proofs.YthkpmldjbogngaaDoor.S
