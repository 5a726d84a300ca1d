/- GoodsSortHolds: it answers true. -/
import Derived.Test.YthkpmldjbogngaaDoorWl0
import Derived.Deep.RegionHeld3
import Derived.Deep.Cut
namespace Go.Proofs.YthkpmldjbogngaaDoor.S
open Go.RowKit Go.Proofs.YthkpmldjbogngaaDoorW.PrintWords Go.Proofs.YthkpmldjbogngaaDoorW.PrintLast Go.Proofs.YthkpmldjbogngaaDoorW.PrintMore
open Go.Proofs.YthkpmldjbogngaaDoor.SP
attribute [local go_sem] max2_int min2_int max_two min_two max_three min_three max_four min_four
set_option linter.unusedVariables false
set_option linter.unusedSimpArgs false
set_option maxHeartbeats 4000000 in
set_option maxRecDepth 100000 in
theorem sortHolds_calls (A0 : Option Addr) (c0 : Nat) (l : List ByteArray) (w : World) (hr0 : Kd.C Kd.string w A0 l.length l) (hc0 : l.length ≤ c0) (hok : okB l) (hl : l.length ≤ 8796093021952) :
    Calls Tryd.prog 3 #[.slice A0 l.length c0] w fun e w' => e = .returned (.bool true) ∧ Below w.heap.size w w' := by
  obtain ⟨r, hr1, hr2, hr3⟩ := prog_sort l hok (by omega)
  obtain ⟨rc, hc1, hc2, hc3⟩ := over_sort l.length (by omega)
  have hrl := sort_le hr1
  obtain ⟨kS, hkS⟩ := same_ev r (by omega)
  have HR0 := Aside0.mk hr0
  have HOK := Aside0.mk hok
  have HR1 := Aside0.mk hr1
  have HR2 := Aside0.mk hr2
  have HR3 := Aside0.mk hr3
  have HC1 := Aside0.mk hc1
  have HC3 := Aside0.mk hc3
  have HKS := Aside0.mk hkS
  clear hr0 hok hr1 hr2 hr3 hc1 hc3 hkS
  obtain ⟨i9, hi9, hz9, hz91, hz92⟩ := info_parts info9
  have S1 : True := trivial
  have S2 : True := trivial
  have S3 : True := trivial
  have hw20 : IntKind.i64.wrap ((l.length : Int) + 20) = ((l.length + 20 : Nat) : Int) := by unfold IntKind.wrap; simp [IntKind.bits, IntKind.signed]; omega
  have ht1 : sA10.toList = [65, 49, 48] := by rw [ByteArray.toList_eq]; rfl
  have ht2 : sA2.toList = [65, 50] := by rw [ByteArray.toList_eq]; rfl
  go_enter Tryd.func3, Tryd.ntmps3
  go_wp2_with (first
    | (clear S1; (with_reducible refine gate_dst (N := 15) rfl ?_); refine Kd.R_lit Kd.string (w0 := w) w.heap.size 9 ?hg (N := 15) ?hd (xs := [sA10, sA2, sA10]) (inner := [.string sA10, .string sA2, .string sA10]) (ok := fun _ => True) (okp := fun _ => True) ?hr ?hp (fun _ hk => hk) trivial (Below.refl _ _) (Nat.le_refl _) (by simp) ?_; (case hd => rfl); (case hg => rfl); (case hr => first | (go_simp; done) | (go_simp; rfl)); (case hp => exact str_reps _ _ _ [sA10, sA2, sA10]); intro vL w1 hoo hbb _ _; have RL := Aside0.mk hoo; have BL := Aside0.mk hbb; obtain ⟨AL_, cL, rfl⟩ := Kd.R_slice hoo; clear hoo hbb)
    | (clear S2; go_at_call 4; refine (sort_own AL_ cL [sA10, sA2, sA10] [sA2, sA10] _ (Kd.R_reads' RL.out).2.2 (Kd.R_reads' RL.out).2.1 first_sort).mono ?_; rintro e w2 ⟨A1, C1, rfl, _, ho, hbb⟩; obtain ⟨g1, rfl⟩ := row_form ho (by simp); have e0 := (own_at2 (l := [sA2, sA10]) ho 0 (by simp)).1; have e1 := (own_at2 (l := [sA2, sA10]) ho 1 (by simp)).1; have BL2 := Aside0.mk (below_step BL.out hbb); clear ho hbb RL BL)
    | (clear S3; (with_reducible refine gate_dst (N := 35) rfl ?_); refine wpList_make1 rfl 22 _ _ rfl 9 i9 (.string ⟨#[]⟩) Tryd.underlying22 hi9 hz9 hz91 rfl (l.length + 20) ?hx ?hy (by rw [hz92]; omega) (by unfold maxLen; omega) ?_; (case hx => first | rfl | (go_simp; done)); (case hy => first | rfl | (go_simp; done)); intro w3 ho3 hg3; have HF := Aside0.mk (show MF w w2.heap.size (l.length + 20) (List.replicate (l.length + 20) ⟨#[]⟩) w3 from ⟨BL2.out.grown hg3 BL2.out.size (fun b e => by cases e), by rw [List.map_replicate]; exact own_weaken ho3 BL2.out.size⟩); clear ho3 hg3 e0 e1 BL2)
    | go_in)
  clear ht1 ht2 hw20
  generalize hgf : w2.heap.size = gf at HF ⊢
  clear hgf
  have hNl : (0 : Int) ≤ (l.length : Int) := by omega
  go_loopw [5] (fun v wg => ∃ i : Nat, i ≤ l.length ∧ v = .int .i64 i ∧ Aside0 (∃ xf, MF w gf (l.length + 20) xf wg ∧ ∀ p, p < i → xf[p]? = l[p]?)) (fun v _ => l.length - (intOf v).toNat)
  case atStart => exact ⟨0, Nat.zero_le _, rfl, ⟨_, HF.out, fun p hp => absurd hp (Nat.not_lt_zero _)⟩⟩
  case round =>
    clear HF
    obtain ⟨i, hi, rfl, hQ⟩ := hrel
    obtain ⟨xf, hf, hx⟩ := hQ.out
    have HF := Aside0.mk hf
    have HX := Aside0.mk hx
    clear hQ hf hx
    have hi0 : (0 : Int) ≤ (i : Int) := by omega
    by_cases hil : i < l.length
    · have hl1 : ((i : Int) < (l.length : Int)) = True := eq_true (by omega)
      have hl2 : ((i : Int) < (l.length : Int) + 20) = True := eq_true (by omega)
      obtain ⟨ad, rfl, ca⟩ := str_at (Kd.C_below HR0.out HF.out.bw) i hil
      obtain ⟨cb, fb⟩ := own_at2 HF.out.rf i (by omega)
      obtain ⟨s, hs⟩ : ∃ s, l.getD i ByteArray.empty = s := ⟨_, rfl⟩
      rw [hs] at ca
      have HX2 := Aside0.mk (set_app HX.out (by have := HF.out.len; omega) ((getD_some hil).trans (by rw [hs])))
      have HF2 := Aside0.mk (HF.out.store i s)
      clear hs
      go_wp2
      go_roundw
      case rel => exact ⟨i + 1, by omega, by go_num, ⟨_, HF2.out, HX2.out⟩⟩
      case measure => simp [intOf]; omega
    · have hl1 : ((i : Int) < (l.length : Int)) = False := eq_false (by omega)
      obtain rfl : i = l.length := by omega
      go_wp2
      go_loopw [6] (fun v wg => ∃ i : Nat, l.length ≤ i ∧ i ≤ l.length + 20 ∧ v = .int .i64 i ∧ Aside0 (∃ xf, MF w gf (l.length + 20) xf wg ∧ (∀ p, p < l.length → xf[p]? = l[p]?) ∧ ∀ p, l.length ≤ p → p < i → xf[p]? = some sSpare)) (fun v _ => l.length + 20 - (intOf v).toNat)
      case atStart => exact ⟨l.length, Nat.le_refl _, by omega, rfl, ⟨xf, HF.out, HX.out, fun p hp hp2 => absurd hp2 (by omega)⟩⟩
      case round =>
        clear HF HX
        obtain ⟨i, hi1, hi2, rfl, hQ⟩ := hrel
        obtain ⟨xf, hf, hx, hy⟩ := hQ.out
        have HF := Aside0.mk hf
        have HX := Aside0.mk hx
        have HY := Aside0.mk hy
        clear hQ hf hx hy
        have hi0 : (0 : Int) ≤ (i : Int) := by omega
        by_cases hil : i < l.length + 20
        · have hl3 : ((i : Int) < (l.length : Int) + 20) = True := eq_true (by omega)
          obtain ⟨cb, fb⟩ := own_at2 HF.out.rf i (by omega)
          have HF2 := Aside0.mk (HF.out.store i sSpare)
          have HX2 := Aside0.mk (show ∀ p, p < l.length → (xf.set i sSpare)[p]? = l[p]? from fun p hp => by rw [List.getElem?_set_ne (by omega)]; exact HX.out p hp)
          have HY2 := Aside0.mk (show ∀ p, l.length ≤ p → p < i + 1 → (xf.set i sSpare)[p]? = some sSpare from fun p hp hp2 => by
            by_cases e : p = i
            · subst e; rw [List.getElem?_set_self (by have := HF.out.len; omega)]
            · rw [List.getElem?_set_ne (by omega)]; exact HY.out p hp (by omega))
          go_wp2
          go_roundw
          case rel => exact ⟨i + 1, by omega, by omega, by go_num, ⟨_, HF2.out, HX2.out, HY2.out⟩⟩
          case measure => simp [intOf]; omega
        · have hl3 : ((i : Int) < (l.length : Int) + 20) = False := eq_false (by omega)
          obtain rfl : i = l.length + 20 := by omega
          have HFX := Aside0.mk (fill_eq HF.out.len HX.out HY.out)
          obtain rfl := HFX.out
          clear HX HY HFX
          have RF := Aside0.mk (in_own HF.out.rf)
          have S4 : True := trivial
          have S5 : True := trivial
          go_wp2_with (first
            | (clear S4; go_at_call 4; refine (sort_own (some ⟨gf, 0, none⟩) (l.length + 20) l r _ (own_C RF.out).2.2 (by omega) HR1.out).mono ?_; rintro e w4 ⟨Aa, Ca, rfl, _, ho, hbb⟩; have FA := Aside0.mk (MR.far ho (own_lt HF.out.rf gf rfl)); have MA := Aside0.mk (show MR w Aa Ca r w4 from ⟨own_weaken ho HF.out.bw.size⟩); replace HF := Aside0.mk (HF.out.below hbb); replace RF := Aside0.mk (pw_own_below RF.out hbb); clear ho hbb)
            | (clear S5; go_at_call 4; refine (sort_own (some ⟨gf, 0, none⟩) (l.length + 20) l r _ (own_C RF.out).2.2 (by omega) HR1.out).mono ?_; rintro e w5 ⟨Ab, Cb, rfl, _, ho, hbb⟩; have FB := Aside0.mk (MR.far ho (own_lt HF.out.rf gf rfl)); have FAB := Aside0.mk (show ∀ g, Aa = some ⟨g, 0, none⟩ → Far Ab g from fun g e => MR.far ho (own_lt MA.out.ro g (by rw [e]; rfl))); have MB := Aside0.mk (show MR w Ab Cb r w5 from ⟨own_weaken ho HF.out.bw.size⟩); replace HF := Aside0.mk (HF.out.below hbb); replace MA := Aside0.mk (MA.out.below hbb); clear ho hbb RF)
            | go_in)
          go_loopw [10] (fun v wg => ∃ i : Nat, i ≤ l.length + 20 ∧ v = .int .i64 i ∧ Aside0 (MF w gf (l.length + 20) (l ++ List.replicate 20 sSpare) wg ∧ MR w Aa Ca r wg ∧ MR w Ab Cb r wg)) (fun v _ => l.length + 20 - (intOf v).toNat)
          case atStart => exact ⟨0, Nat.zero_le _, rfl, ⟨HF.out, MA.out, MB.out⟩⟩
          case round =>
            clear HF MA MB
            obtain ⟨i, hi1, rfl, hQ⟩ := hrel
            have hi0 : (0 : Int) ≤ (i : Int) := by omega
            by_cases hil : i < l.length + 20
            · have hl4 : ((i : Int) < (l.length : Int) + 20) = True := eq_true (by omega)
              obtain ⟨cb, fb⟩ := own_at2 hQ.out.1.rf i hil
              by_cases hin : i < l.length
              · obtain ⟨ad, rfl, ca⟩ := str_at (Kd.C_below HR0.out hQ.out.1.bw) i hin
                obtain ⟨s, hs⟩ : ∃ s, l.getD i ByteArray.empty = s := ⟨_, rfl⟩
                rw [hs] at ca
                rw [getD_l hin, hs] at cb
                have hl5 : decide ((i : Int) < (l.length : Int)) = true := decide_eq_true (by omega)
                have hl6 : ((l.length : Int) ≤ (i : Int)) = False := eq_false (by omega)
                have hl7 : decide ((l.length : Int) ≤ (i : Int)) = false := decide_eq_false (by omega)
                have hl8 : (l.length ≤ i) = False := eq_false (by omega)
                have hl9 : decide (l.length ≤ i) = false := decide_eq_false (by omega)
                clear hs fb
                go_wp2
                go_quiet (fail)
                go_wp2
                go_roundw
                case rel => exact ⟨i + 1, by omega, by go_num, ⟨hQ.out.1.below (pw_below_drewN (Below.refl _ _) nq), hQ.out.2.1.below (pw_below_drewN (Below.refl _ _) nq), hQ.out.2.2.below (pw_below_drewN (Below.refl _ _) nq)⟩⟩
                case measure => simp [intOf]; omega
              · rw [getD_r (by omega) (by omega)] at cb
                have hl5 : decide ((i : Int) < (l.length : Int)) = false := decide_eq_false (by omega)
                have hl6 : ((l.length : Int) ≤ (i : Int)) = True := eq_true (by omega)
                have hl7 : decide ((l.length : Int) ≤ (i : Int)) = true := decide_eq_true (by omega)
                have hl8 : (l.length ≤ i) = True := eq_true (by omega)
                have hl9 : decide (l.length ≤ i) = true := decide_eq_true (by omega)
                have hts : sSpare.toList = [115, 112, 97, 114, 101] := by rw [ByteArray.toList_eq]; rfl
                clear fb
                go_wp2
                go_quiet (fail)
                go_wp2
                go_roundw
                case rel => exact ⟨i + 1, by omega, by go_num, ⟨hQ.out.1.below (pw_below_drewN (Below.refl _ _) nq), hQ.out.2.1.below (pw_below_drewN (Below.refl _ _) nq), hQ.out.2.2.below (pw_below_drewN (Below.refl _ _) nq)⟩⟩
                case measure => simp [intOf]; omega
            · have hl4 : ((i : Int) < (l.length : Int) + 20) = False := eq_false (by omega)
              have HOKR := Aside0.mk (show ∀ x ∈ r, x.size ≤ 1152921504606846976 from fun x hx => HOK.out x ((HR3.out x).1 hx))
              go_wp2
              go_loopw [11] (fun v wg => ∃ i : Nat, 1 ≤ i ∧ v = .int .i64 i ∧ Aside0 (MF w gf (l.length + 20) (l ++ List.replicate 20 sSpare) wg ∧ MR w Aa Ca r wg ∧ MR w Ab Cb r wg)) (fun v _ => r.length - (intOf v).toNat)
              case atStart => exact ⟨1, Nat.le_refl _, rfl, hQ⟩
              case round =>
                clear hQ
                obtain ⟨i, hi1, rfl, hQ⟩ := hrel
                have hi0 : (0 : Int) ≤ (i : Int) := by omega
                by_cases hil : i < r.length
                · have hl5 : ((i : Int) < (r.length : Int)) = True := eq_true (by omega)
                  obtain ⟨j, rfl⟩ : ∃ j, i = j + 1 := ⟨i - 1, by omega⟩
                  obtain ⟨kc, hkc⟩ := rise HR2.out HOKR.out j hil
                  obtain ⟨g, rfl⟩ := row_form hQ.out.2.1.ro (by omega)
                  obtain ⟨cb, fb⟩ := own_at2 hQ.out.2.1.ro j (by omega)
                  obtain ⟨cb2, fb2⟩ := own_at2 hQ.out.2.1.ro (j + 1) (by omega)
                  obtain ⟨x, hx⟩ : ∃ x, r.getD j ByteArray.empty = x := ⟨_, rfl⟩
                  obtain ⟨y, hy⟩ : ∃ y, r.getD (j + 1) ByteArray.empty = y := ⟨_, rfl⟩
                  rw [hx, hy] at hkc
                  rw [hx] at cb
                  rw [hy] at cb2
                  have HKC := Aside0.mk hkc
                  clear hkc hx hy fb fb2
                  have hs1 : IntKind.i64.wrap (((j + 1 : Nat) : Int) - 1) = (j : Int) := (i64_w _).trans (by unfold wrap64; omega)
                  have hs2 : IntKind.i64.wrap ((j : Int) + 1 - 1) = (j : Int) := (i64_w _).trans (by unfold wrap64; omega)
                  have hj0 : (0 : Int) ≤ (j : Int) := by omega
                  go_wp2
                  go_quiet ((go_at_call 5; exact Calls.quiet_of ((goods_Compare.calls kc x y (-1) _ HKC.out).mono fun e w' h => ⟨h.1, h.2.out⟩)))
                  go_wp2
                  go_roundw
                  case rel => exact ⟨j + 1 + 1, by omega, by go_num, ⟨hQ.out.1.below (pw_below_drewN (Below.refl _ _) nq), hQ.out.2.1.below (pw_below_drewN (Below.refl _ _) nq), hQ.out.2.2.below (pw_below_drewN (Below.refl _ _) nq)⟩⟩
                  case measure => simp [intOf]; omega
                · have hl5 : ((i : Int) < (r.length : Int)) = False := eq_false (by omega)
                  have HF := Aside0.mk hQ.out.1
                  have MA := Aside0.mk hQ.out.2.1
                  have MB := Aside0.mk hQ.out.2.2
                  clear hQ
                  have HLR := Aside0.mk (show ∀ x ∈ l, x ∈ r from fun x hx => (HR3.out x).2 hx)
                  have HRL := Aside0.mk (show ∀ x ∈ r, x ∈ l from fun x hx => (HR3.out x).1 hx)
                  have HOM := Aside0.mk (show ∀ x ∈ l, x.size ≤ maxLen from fun x hx => Nat.le_trans (HOK.out x hx) (by unfold maxLen; omega))
                  have S6 : True := trivial
                  have S7 : True := trivial
                  have S8 : True := trivial
                  have S9 : True := trivial
                  have S10 : True := trivial
                  go_wp2_with (first
                    | (clear S6; go_at_call 6; refine (barrowlaw02_same.calls kS Aa _ r Ab _ r true _ MA.out.C (Nat.le_refl _) MB.out.C (Nat.le_refl _) HKS.out).mono ?_; rintro e w6 ⟨rfl, hd⟩; replace HF := Aside0.mk (HF.out.below hd.below); replace MA := Aside0.mk (MA.out.below hd.below); replace MB := Aside0.mk (MB.out.below hd.below); clear hd)
                    | (clear S7; go_at_call 7; refine (holds_calls Aa _ r A0 _ l _ MA.out.C (Kd.C_below HR0.out HF.out.bw) HLR.out (fun x hx => HOM.out x (HRL.out x hx)) (by omega) (by omega)).mono ?_; rintro e w7 ⟨rfl, hbb⟩; replace HF := Aside0.mk (HF.out.below hbb); replace MA := Aside0.mk (MA.out.below hbb); replace MB := Aside0.mk (MB.out.below hbb); clear hbb)
                    | (clear S8; go_at_call 7; refine (holds_calls A0 _ l Aa _ r _ (Kd.C_below HR0.out HF.out.bw) MA.out.C HRL.out HOM.out (by omega) (by omega)).mono ?_; rintro e w8 ⟨rfl, hbb⟩; replace HF := Aside0.mk (HF.out.below hbb); replace MA := Aside0.mk (MA.out.below hbb); replace MB := Aside0.mk (MB.out.below hbb); clear hbb)
                    | (clear S9; (with_reducible refine gate_dst (N := 135) rfl ?_); refine Kd.R_lit Kd.string (w0 := w) w.heap.size 9 ?hg2 (N := 135) ?hd2 (xs := ([] : List ByteArray)) (inner := []) (ok := fun k => k ≠ gf) (okp := fun _ => False) ?hr2 ?hp2 (fun _ hk => hk.elim) (by have := own_lt HF.out.rf gf rfl; omega) HF.out.bw HF.out.bw.size (by simp) ?_; (case hd2 => rfl); (case hg2 => rfl); (case hr2 => first | (go_simp; done) | (go_simp; rfl)); (case hp2 => exact (Reps.none _ _)); intro vL w9 hoo hbb hgg hnn; have RL := Aside0.mk hoo; have NLA := Aside0.mk (new_far MA.out.ro hnn); have NLB := Aside0.mk (new_far MB.out.ro hnn); replace HF := Aside0.mk (HF.out.below (below_of_grown0 hgg)); replace MA := Aside0.mk (MA.out.below (below_of_grown0 hgg)); replace MB := Aside0.mk (MB.out.below (below_of_grown0 hgg)); clear hoo hbb hgg hnn)
                    | (clear S10; (with_reducible refine gate_builtin (b := .append) (xs := #[.tmp 135, .tmp 136]) rfl ?_); at_builtin; refine Kd.R_append_rows Kd.string (w0 := w) w.heap.size rfl (.tmp 135) (.tmp 136) 22 9 (.string ⟨#[]⟩) 16 rfl Tryd.underlying22 info9 rfl (by decide) (by omega) vL [] r Aa r.length r.length (fun k => k ≠ gf) (fun _ => False) rfl rfl ?aO ?aR (fun _ _ h => h) (fun _ h => h.elim) ?aF ?aB ?aS ?aL ?_; (case aO => exact RL.out); (case aR => exact MA.out.C); (case aF => exact fun k hk => by (have := own_lt HF.out.rf gf rfl); omega); (case aB => exact HF.out.bw); (case aS => exact HF.out.bw.size); (case aL => simp; omega); intro vW w10 hoo hbb hgg hat; have RW := Aside0.mk (show Kd.R Kd.string 9 w10 w.heap.size (fun k => k ≠ gf) vW r from hoo); replace HF := Aside0.mk (HF.out.grown hgg (fun e => RL.out.1 gf e.symm rfl) hbb); replace MA := Aside0.mk (MA.out.grown hgg NLA.out); replace MB := Aside0.mk (MB.out.grown hgg NLB.out); obtain ⟨AW, cW, rfl⟩ := Kd.R_slice hoo; clear RL NLA NLB hoo hbb hgg hat)
                    | go_in)
                  have hgf9 : gf < wr.heap.size ∨ True := .inr trivial
                  clear hgf9
                  go_loopw [13] (fun v wg => ∃ i : Nat, i ≤ l.length ∧ v = .int .i64 i ∧ Aside0 (∃ xf, MF w gf (l.length + 20) xf wg ∧ MR w Aa Ca r wg ∧ MR w Ab Cb r wg ∧ Kd.R Kd.string 9 wg w.heap.size (fun k => k ≠ gf) (.slice AW r.length cW) r ∧ ∀ p, p < i → xf[p]? = some sOver)) (fun v _ => l.length - (intOf v).toNat)
                  case atStart => exact ⟨0, Nat.zero_le _, rfl, ⟨_, HF.out, MA.out, MB.out, RW.out, fun p hp => absurd hp (Nat.not_lt_zero _)⟩⟩
                  case round =>
                    clear HF MA MB RW
                    obtain ⟨i, hi1, rfl, hQ⟩ := hrel
                    obtain ⟨xf, hf, ha, hb, hw, hx⟩ := hQ.out
                    have HF := Aside0.mk hf
                    have MA := Aside0.mk ha
                    have MB := Aside0.mk hb
                    have RW := Aside0.mk hw
                    have HX := Aside0.mk hx
                    clear hQ hf ha hb hw hx
                    have hi0 : (0 : Int) ≤ (i : Int) := by omega
                    by_cases hin : i < l.length
                    · have hl6 : ((i : Int) < (l.length : Int)) = True := eq_true (by omega)
                      obtain ⟨cb, fb⟩ := own_at2 HF.out.rf i (by omega)
                      have HF2 := Aside0.mk (HF.out.store i sOver)
                      have MA2 := Aside0.mk (MA.out.store FA.out i (.string sOver))
                      have MB2 := Aside0.mk (MB.out.store FB.out i (.string sOver))
                      have RW2 := Aside0.mk (Kd.R_grown RW.out (own_sets HF.out.rf i sOver).2 (fun k hk e => hk (Option.some.inj e)))
                      have HX2 := Aside0.mk (set_of HF.out.len (by omega) HX.out)
                      go_wp2
                      go_roundw
                      case rel => exact ⟨i + 1, by omega, by go_num, ⟨_, HF2.out, MA2.out, MB2.out, RW2.out, HX2.out⟩⟩
                      case measure => simp [intOf]; omega
                    · have hl6 : ((i : Int) < (l.length : Int)) = False := eq_false (by omega)
                      obtain rfl : i = l.length := by omega
                      have RI := Aside0.mk (in_own2 HF.out.rf HX.out)
                      have hots : sOver.toList = [111, 118, 101, 114] := by rw [ByteArray.toList_eq]; rfl
                      have S11 : True := trivial
                      have S12 : True := trivial
                      have S13 : True := trivial
                      have S14 : True := trivial
                      have S15 : True := trivial
                      by_cases hN : 0 < l.length
                      · have hl7 : ((0 : Int) < (l.length : Int)) = True := eq_true (by omega)
                        have hl8 : (0 < l.length) = True := eq_true hN
                        obtain rfl := HC3.out hN
                        clear HC3
                        go_wp2_with (first
                          | (clear S11; go_at_call 4; (with_reducible refine (sort_own_n (some ⟨gf, 0, none⟩) (l.length + 20) (List.replicate l.length sOver) [sOver] l.length List.length_replicate _ (own_Cn RI.out) (by omega) HC1.out).mono ?_); rintro e w11 ⟨Ac, Cc, rfl, hcc, ho, hbb⟩; obtain ⟨gc, rfl⟩ := row_form ho (by simp); have FC := Aside0.mk (MR.far ho (own_lt HF.out.rf gf rfl)); have FAC := Aside0.mk (show Apt Aa (some ⟨gc, 0, none⟩) from Apt.of (fun g e => MR.far ho (own_lt MA.out.ro g (by rw [e]; rfl)))); have FBC := Aside0.mk (show Apt Ab (some ⟨gc, 0, none⟩) from Apt.of (fun g e => MR.far ho (own_lt MB.out.ro g (by rw [e]; rfl)))); have MC := Aside0.mk (show MR w (some ⟨gc, 0, none⟩) Cc [sOver] w11 from ⟨own_weaken ho HF.out.bw.size⟩); replace HF := Aside0.mk (HF.out.below hbb); replace MA := Aside0.mk (MA.out.below hbb); replace MB := Aside0.mk (MB.out.below hbb); replace RW := Aside0.mk (Kd.R_below RW.out hbb); replace RI := Aside0.mk (pw_own_below RI.out hbb); (try clear ec); have ec := (own_at2 (l := [sOver]) MC.out.ro 0 (by simp)).1; clear ho hbb hcc)
                          | (clear S12; go_at_call 6; refine (barrowlaw02_same.calls kS Aa _ r AW _ r true _ MA.out.C (Nat.le_refl _) (Kd.R_reads' RW.out).2.2 (Kd.R_reads' RW.out).2.1 HKS.out).mono ?_; rintro e w12 ⟨rfl, hd⟩; replace HF := Aside0.mk (HF.out.below hd.below); replace MA := Aside0.mk (MA.out.below hd.below); replace MB := Aside0.mk (MB.out.below hd.below); replace MC := Aside0.mk (MC.out.below hd.below); replace RW := Aside0.mk (Kd.R_below RW.out hd.below); replace RI := Aside0.mk (pw_own_below RI.out hd.below); (try clear ec); have ec := (own_at2 (l := [sOver]) MC.out.ro 0 (by simp)).1; clear hd)
                          | (clear S13; go_at_call 6; refine (barrowlaw02_same.calls kS Ab _ r AW _ r true _ MB.out.C (Nat.le_refl _) (Kd.R_reads' RW.out).2.2 (Kd.R_reads' RW.out).2.1 HKS.out).mono ?_; rintro e w13 ⟨rfl, hd⟩; replace HF := Aside0.mk (HF.out.below hd.below); replace MA := Aside0.mk (MA.out.below hd.below); replace MB := Aside0.mk (MB.out.below hd.below); replace MC := Aside0.mk (MC.out.below hd.below); replace RI := Aside0.mk (pw_own_below RI.out hd.below); (try clear ec); have ec := (own_at2 (l := [sOver]) MC.out.ro 0 (by simp)).1; clear hd)
                          | (clear S14; (with_reducible refine gate_dst (N := 177) rfl ?_); refine slit_event ?hgX (N := 177) ?hdX (cs := [.slice Aa r.length r.length, .slice Ab r.length r.length, .slice (some ⟨gc, 0, none⟩) 1 1, .slice (some ⟨gf, 0, none⟩) l.length (l.length + 20)]) (e := 22) (n := 4) ?hrX ?_; (case hdX => rfl); (case hgX => rfl); (case hrX => first | (go_simp; done) | (go_simp; rfl)); intro gl w14 hgl hblk hbb; have HGL := Aside0.mk (show w.heap.size ≤ gl by rw [hgl]; exact HF.out.bw.size); have HAL := Aside0.mk (al4 (MA.out.below hbb) (MB.out.below hbb) (MC.out.below hbb) (pw_own_below RI.out hbb) hblk (Nat.le_trans HF.out.bw.size hbb.size)); have HBW := Aside0.mk (below_step HF.out.bw hbb); clear hgl hblk hbb ec)
                          | (clear S15; go_at_call 8; refine (apart_calls _ _ _ _ gl w.heap.size gf _ _ (st4 (Apt.of FAB.out) FAC.out FBC.out FA.out FB.out FC.out (by omega) (by (try simp only [List.length_cons, List.length_nil]); omega) (by omega)) HAL.out HGL.out).mono ?_; rintro e w15 ⟨rfl, hbb⟩; have HE := Aside0.mk (HBW.out.trans hbb); clear hbb)
                          | go_in)
                        go_ret
                        exact ⟨rfl, HE.out⟩
                      · have hl7 : ((0 : Int) < (l.length : Int)) = False := eq_false (by omega)
                        have hl8 : (0 < l.length) = False := eq_false hN
                        go_wp2_with (first
                          | (clear S11; go_at_call 4; (with_reducible refine (sort_own_n (some ⟨gf, 0, none⟩) (l.length + 20) (List.replicate l.length sOver) rc l.length List.length_replicate _ (own_Cn RI.out) (by omega) HC1.out).mono ?_); rintro e w11 ⟨Ac, Cc, rfl, hcc, ho, hbb⟩;  have FC := Aside0.mk (MR.far ho (own_lt HF.out.rf gf rfl)); have FAC := Aside0.mk (show Apt Aa Ac from Apt.of (fun g e => MR.far ho (own_lt MA.out.ro g (by rw [e]; rfl)))); have FBC := Aside0.mk (show Apt Ab Ac from Apt.of (fun g e => MR.far ho (own_lt MB.out.ro g (by rw [e]; rfl)))); have MC := Aside0.mk (show MR w Ac Cc rc w11 from ⟨own_weaken ho HF.out.bw.size⟩); replace HF := Aside0.mk (HF.out.below hbb); replace MA := Aside0.mk (MA.out.below hbb); replace MB := Aside0.mk (MB.out.below hbb); replace RW := Aside0.mk (Kd.R_below RW.out hbb); replace RI := Aside0.mk (pw_own_below RI.out hbb);  clear ho hbb hcc)
                          | (clear S12; go_at_call 6; refine (barrowlaw02_same.calls kS Aa _ r AW _ r true _ MA.out.C (Nat.le_refl _) (Kd.R_reads' RW.out).2.2 (Kd.R_reads' RW.out).2.1 HKS.out).mono ?_; rintro e w12 ⟨rfl, hd⟩; replace HF := Aside0.mk (HF.out.below hd.below); replace MA := Aside0.mk (MA.out.below hd.below); replace MB := Aside0.mk (MB.out.below hd.below); replace MC := Aside0.mk (MC.out.below hd.below); replace RW := Aside0.mk (Kd.R_below RW.out hd.below); replace RI := Aside0.mk (pw_own_below RI.out hd.below);  clear hd)
                          | (clear S13; go_at_call 6; refine (barrowlaw02_same.calls kS Ab _ r AW _ r true _ MB.out.C (Nat.le_refl _) (Kd.R_reads' RW.out).2.2 (Kd.R_reads' RW.out).2.1 HKS.out).mono ?_; rintro e w13 ⟨rfl, hd⟩; replace HF := Aside0.mk (HF.out.below hd.below); replace MA := Aside0.mk (MA.out.below hd.below); replace MB := Aside0.mk (MB.out.below hd.below); replace MC := Aside0.mk (MC.out.below hd.below); replace RI := Aside0.mk (pw_own_below RI.out hd.below);  clear hd)
                          | (clear S14; (with_reducible refine gate_dst (N := 177) rfl ?_); refine slit_event ?hgX (N := 177) ?hdX (cs := [.slice Aa r.length r.length, .slice Ab r.length r.length, .slice Ac rc.length rc.length, .slice (some ⟨gf, 0, none⟩) l.length (l.length + 20)]) (e := 22) (n := 4) ?hrX ?_; (case hdX => rfl); (case hgX => rfl); (case hrX => first | (go_simp; done) | (go_simp; rfl)); intro gl w14 hgl hblk hbb; have HGL := Aside0.mk (show w.heap.size ≤ gl by rw [hgl]; exact HF.out.bw.size); have HAL := Aside0.mk (al4 (MA.out.below hbb) (MB.out.below hbb) (MC.out.below hbb) (pw_own_below RI.out hbb) hblk (Nat.le_trans HF.out.bw.size hbb.size)); have HBW := Aside0.mk (below_step HF.out.bw hbb); clear hgl hblk hbb )
                          | (clear S15; go_at_call 8; refine (apart_calls _ _ _ _ gl w.heap.size gf _ _ (st4 (Apt.of FAB.out) FAC.out FBC.out FA.out FB.out FC.out (by omega) (by (try simp only [List.length_cons, List.length_nil]); omega) (by omega)) HAL.out HGL.out).mono ?_; rintro e w15 ⟨rfl, hbb⟩; have HE := Aside0.mk (HBW.out.trans hbb); clear hbb)
                          | go_in)
                        go_ret
                        exact ⟨rfl, HE.out⟩
end Go.Proofs.YthkpmldjbogngaaDoor.S
