/- barrowlaw01.SpanWalks answers true for every list of runs and every number, where the list has at most 1048576 runs; the heap below is left as it lies. -/
import Derived.Test.YtcblhfnjcanliaaWk3
import Derived.Deep.Cut
import Derived.LoopN
import Derived.Sort.CutIn
import Derived.Laws.EntriesVeiled
namespace Go.Proofs.Ytcblhfnjcanliaa.G
open Go.RowKit Go.Proofs.YtcblhfnjcanliaaW.PrintWords Go.Proofs.YtcblhfnjcanliaaW.PrintLast Go.Proofs.YtcblhfnjcanliaaW.PrintMore
open Go.Proofs.Ytcblhfnjcanliaa.Pure
set_option linter.unusedVariables false
attribute [local go_sem] Oper.semAt_some
set_option maxHeartbeats 4000000 in
set_option maxRecDepth 100000 in
theorem walks_calls (A : Option Addr) (ca : Nat) (a : List S24) (kk : Int) (w : World) (ha : Kd.C k24 w A a.length a) (hc : a.length ≤ ca) (la : a.length ≤ 1048576) :
    Calls Try.prog 3 #[.slice A a.length ca, .int .i64 kk] w fun e w' => e = .returned (.bool true) ∧ Below w.heap.size w w' := by
  refine (callsIn_wide (n := 9)).1 ?_
  refine callsIn_of_wp_marks Try.func3 rfl trivial ?_ rfl
  refine wpIn_wide.2 ?_
  simp only [Try.ntmps3, List.size_toArray, List.length_cons, List.length_nil, Nat.reduceAdd, Nat.reduceSub, Array.replicate_succ, Array.replicate_zero, List.push_toArray, List.append_toArray, List.nil_append, List.cons_append]
  have HA := Aside0.mk ha
  clear ha
  go_upto_if 20 with (fail)
  go_cut [] from 19 to 145 (fun wc => ∃ k1 : Int, 0 ≤ k1 ∧ W2 w wc k1)
  case first =>
    go_wp2
    all_goals (go_meet; (case rel => first | exact ⟨0, by omega, W2.set (W2.new w kk) 0⟩ | exact ⟨0, by omega, W2.new w 0⟩ | exact ⟨kk, by omega, W2.new w kk⟩))
  case rest =>
    obtain ⟨k1, hk1, hw2⟩ := hcut
    have xk := hw2.1.cell
    have xf := hw2.1.frozen
    go_upto_if 22 with (fail)
    go_cut [] from 19 to 145 (fun wc => ∃ k2 : Nat, k2 ≤ 300 ∧ W2 w wc (k2 : Int))
    case first =>
      go_wp2
      all_goals (go_meet; (case rel => first | exact ⟨300, by omega, W2.set hw2 300⟩ | exact ⟨k1.toNat, by omega, by rw [Int.toNat_of_nonneg hk1]; exact hw2⟩))
    case rest =>
    obtain ⟨k2, hk2, hw3⟩ := hcut
    go_upto_region 5 with (fail)
    have xk3 := hw3.1.cell
    have S1 : True := trivial
    have S2 : True := trivial
    have S3 : True := trivial
    have S4 : True := trivial
    have S5 : True := trivial
    have S6 : True := trivial
    have HW3 := Aside0.mk hw3
    obtain ⟨L, hL⟩ : ∃ L, ([⟨2, 3⟩] : List S24) ++ a = L := ⟨_, rfl⟩
    have lL : L.length ≤ 1048577 := by rw [← hL]; simp; omega
    obtain ⟨want, hwant⟩ : ∃ want, (numsOf (canon L)).take (k2 + 1) = want := ⟨_, rfl⟩
    have HL := Aside0.mk (show (([⟨2, 3⟩] : List S24).length + a.length) * 16 ≤ 140737488355328 by simp only [List.length_cons, List.length_nil]; omega)
    have hw1 : IntKind.i64.wrap ((k2 : Int) + 1) = ((k2 + 1 : Nat) : Int) := (i64_w _).trans (by unfold wrap64; omega)
    obtain ⟨kW, hkW0⟩ := (walked_ev L (by omega) (k2 + 1) (by omega)).rounds
    rw [hwant] at hkW0
    have hkW := Aside0.mk hkW0
    have HL0 := Aside0.mk (show 0 < L.length by rw [← hL]; simp)
    have HLL := Aside0.mk hL
    have HWT := Aside0.mk hwant
    clear hkW0 hL hwant
    have hnf : ∀ (B : Nat) (W : World), (binOp BinOp.eql 28 (.func (.func 8) #[] #[.pointer (some ⟨B, 0, none⟩)]) .nilFunc).run Try.prog W = .ok (.bool false) W := fun _ _ => by first | rfl | kernel_rfl
    go_wp2_with (first
      | (clear S1; (with_reducible refine gate_dst (N := 24) rfl ?_); refine Kd.R_lit k24 (w0 := w) w.heap.size 24 ?hg (N := 24) ?hd (xs := [⟨2, 3⟩]) (inner := runCells [⟨2, 3⟩]) (ok := fun _ => True) (okp := fun _ => True) ?hr ?hp (fun _ hk => hk) trivial HW3.out.2.2.1 HW3.out.2.2.1.size (by simp) ?_; (case hd => rfl); (case hg => rfl); (case hr => first | (go_simp; done) | (go_simp; rfl)); (case hp => exact run_reps _ _ _ _); intro vL w4 hR4 hB4 hg4 hn4; have RL := Aside0.mk hR4; have BL := Aside0.mk hB4; have GL := Aside0.mk hg4; have NL := Aside0.mk hn4; have S1x : True := trivial; clear hR4 hB4 hg4 hn4)
      | (clear S2; (with_reducible refine gate_builtin (b := .append) (xs := #[.tmp 24, .tmp 25]) rfl ?_); at_builtin; refine Kd.R_append_rows k24 (w0 := w) w.heap.size rfl (.tmp 24) (.tmp 25) 22 24 (.agg #[(.int .i64 0), (.int .i64 0)]) 16 rfl Try.underlying22 info24 rfl (by decide) (by omega) vL [⟨2, 3⟩] a A a.length ca (fun _ => True) (fun _ => False) rfl rfl ?aO ?aR (fun _ _ h => h) (fun _ h => h.elim) ?aF ?aB ?aS ?aL ?_; (case aO => exact RL.out); (case aR => exact Kd.C_below HA.out BL.out); (case aF => exact fun _ _ => trivial); (case aB => exact BL.out); (case aS => exact BL.out.size); (case aL => exact HL.out); intro vL5 w5 hR5 hB5 hg5 ho5; obtain ⟨bL, eL, hbL⟩ := NL.out; rw [eL] at hg5; have S0_5 := Aside0.mk ((HW3.out.s0.grown GL.out (fun r e => by cases e)).grown hg5 (fun r e => by cases e; exact Nat.le_trans HW3.out.s0.sz hbL)); rw [HLL.out] at hR5; obtain ⟨A5, c5, rfl⟩ := Kd.R_slice hR5; have R5 := Aside0.mk hR5; have HC5 := Aside0.mk (Kd.R_reads' hR5).2.1; obtain ⟨g, rfl, hbg, hgl, hLs⟩ := Lst.of hR5 HL0.out; have G5 := Aside0.mk (And.intro hbg (And.intro hgl hLs)); clear hbg hgl hLs; have xk5 := S0_5.out.b3.cell; clear S1x xk3 hR5 hB5 hg5 ho5 RL BL GL NL eL hbL)
      | (clear S3; go_at_call 4; refine (barrowref01_Walked.calls kW _ _ _ _ _ _ (Kd.R_reads' R5.out).2.2 (Kd.R_reads' R5.out).2.1 hkW.out).mono ?_; rintro e w6 ⟨vW, rfl, hRW, hb6⟩; obtain ⟨Aw, cw, rfl⟩ := Kd.R_slice hRW; have C6 := Aside0.mk (Kd.C_below (Kd.R_reads' R5.out).2.2 hb6); have S0_6 := Aside0.mk (S0_5.out.below hb6); have RW := Aside0.mk (Kd.R_reads' hRW).2.2; have NW := Aside0.mk (show ∀ ad, Aw = some ad → w5.heap.size ≤ ad.block ∧ ad.block < w6.heap.size from fun ad e => by subst e; exact ⟨Kd.R_base hRW _ rfl, Kd.R_lt hRW _ rfl⟩); have Z6 := Aside0.mk hb6; have R6 := Aside0.mk (Kd.R_below R5.out hb6); clear S0_5 R5 xk5 hb6 hRW)
      | (clear S4; go_at_call 5; refine (span_Walk.calls (Kd.C_alloc C6.out _) HC5.out (by omega)).mono ?_; rintro e w7 ⟨B1, A1, c1, rfl, hWk, hb7⟩; have WK1 := Aside0.mk hWk; have BW := Aside0.mk (boxB (Boxed.new w6 25 (.slice Aw _ cw)) hb7); have S0_7 := Aside0.mk ((S0_6.out.grown (World.grownBy_alloc w6 _ none) (fun r e => by cases e)).below hb7); have RW7 := Aside0.mk (Kd.C_below (Kd.C_alloc RW.out _) hb7); have R7 := Aside0.mk (Kd.R_below (Kd.R_alloc R6.out _) hb7); have S5x : True := trivial; have Z7 := Aside0.mk hb7; clear RW S0_6 C6 R6 hWk hb7)
      | (clear S5 S5x; (with_reducible refine gate_dst (N := 34) rfl ?_); refine Kd.R_lit k24 (w0 := w) w.heap.size 24 ?hg (N := 34) ?hd (xs := [⟨500, 502⟩]) (inner := runCells [⟨500, 502⟩]) (ok := fun _ => True) (okp := fun _ => True) ?hr ?hp (fun _ hk => hk) trivial (S0_7.out.grown (World.grownBy_alloc w7 (.cells #[.func (.func 8) #[] #[.pointer (some ⟨B1, 0, none⟩)]] 28) none) (fun r e => by cases e)).bw (S0_7.out.grown (World.grownBy_alloc w7 (.cells #[.func (.func 8) #[] #[.pointer (some ⟨B1, 0, none⟩)]] 28) none) (fun r e => by cases e)).bw.size (by simp) ?_; (case hd => rfl); (case hg => rfl); (case hr => first | (go_simp; done) | (go_simp; rfl)); (case hp => exact run_reps _ _ _ _); intro vM w8 hR8 hB8 hg8 hn8; have Sz8 := Aside0.mk (below_of_grown hg8); obtain ⟨A8, c8, rfl⟩ := Kd.R_slice hR8; have R8 := Aside0.mk hR8; have S6x : True := trivial; clear hR8 hB8 hg8 hn8)
      | (clear S6 S6x; go_at_call 5; refine (span_Walk.calls (Kd.R_reads' R8.out).2.2 (Kd.R_reads' R8.out).2.1 (by simp)).mono ?_; rintro e w9 ⟨B2, A2, c2, rfl, hWk2, hb9⟩; have WK2 := Aside0.mk hWk2; have B9 := Aside0.mk ((Sz8.out.trans (hb9.mono Sz8.out.size))); have x7 := (boxB (Boxed.new w7 28 (.func (.func 8) #[] #[.pointer (some ⟨B1, 0, none⟩)])) B9.out).cell; clear hWk2 hb9)
      | go_in)
    have hb1 := below_alloc (Below.refl _ w7) (.cells #[.func (.func 8) #[] #[.pointer (some ⟨B1, 0, none⟩)]] 28)
    have b79 : Below w7.heap.size w7 w9 := hb1.trans (B9.out.mono hb1.size)
    have b69 : Below (w6.alloc (.cells #[.slice Aw want.length cw] 25)).heap.size (w6.alloc (.cells #[.slice Aw want.length cw] 25)) w9 := Z7.out.trans (b79.mono Z7.out.size)
    have hb0 := below_alloc (Below.refl _ w6) (.cells #[.slice Aw want.length cw] 25)
    have b6w : Below w6.heap.size w6 w9 := hb0.trans (b69.mono hb0.size)
    have b59 : Below w5.heap.size w5 w9 := Z6.out.trans (b6w.mono Z6.out.size)
    have z6 := World.size_alloc w6 (.cells #[.slice Aw want.length cw] 25)
    have z7 := World.size_alloc w7 (.cells #[.func (.func 8) #[] #[.pointer (some ⟨B1, 0, none⟩)]] 28)
    have q5 := Z6.out.size
    have q7 := Z7.out.size
    have q9 := B9.out.size
    have q8 := Sz8.out.size
    have LS9 := Aside0.mk (G5.out.2.2.kept b59)
    have wkB := WK1.out.hB
    have wk2B := WK2.out.hB
    have c22 : canon [⟨500, 502⟩] = [⟨500, 502⟩] := canon_norm (by simp [Norm, NormFrom])
    have g5l := G5.out.2.1
    have WB2 := WK2.out
    rw [c22] at WB2
    have hsb : SB w w9.heap.size g k2 w6.heap.size w7.heap.size B1 B2 Aw cw want A1 c1 (canon L) A2 c2 [⟨500, 502⟩] w9 := by
      refine ⟨S0_7.out.below b79, ⟨?_, by omega⟩, Nat.le_refl _, boxB BW.out b79, ⟨by omega, by omega⟩, CellsI.of (Kd.C_below RW7.out b79), fun ad e => ?_, boxB (Boxed.new w7 28 _) B9.out, ⟨by omega, by omega⟩, boxB WK1.out.box b79, ⟨by omega, Nat.lt_of_lt_of_le WK1.out.box.lt b79.size⟩, Cells24.of (Kd.C_below WK1.out.row b79), fun ad e => ?_, WB2.box, ⟨by omega, WB2.box.lt⟩, Cells24.of WB2.row, fun ad e => ?_⟩
      · have h3 := (S0_7.out.below b79).b3
        have h4 := (S0_7.out.below b79).b4
        obtain ⟨cs, hcs, _⟩ := LS9.out.blk
        have g1 := G5.out.1
        have n3 : g ≠ w.heap.size := fun e => by subst e; rw [show w9.heap[w.heap.size]? = _ from h3] at hcs; simp at hcs
        have n4 : g ≠ w.heap.size + 1 := fun e => by subst e; rw [show w9.heap[w.heap.size + 1]? = _ from h4] at hcs; simp at hcs
        omega
      · have := NW.out ad e
        omega
      · have := WK1.out.hA ad e
        have := b79.size
        omega
      · have := WB2.hA ad e
        omega
    have HSB := Aside0.mk hsb
    clear hsb hb1 b79 b69 hb0 b6w b59 z6 z7 q5 q7 q9 q8 wkB wk2B c22 g5l WB2
    generalize hN9 : w9.heap.size = n9 at HSB
    obtain ⟨PS, hPS⟩ : ∃ P : World → Prop, ∀ W, P W ↔ SB w n9 g k2 w6.heap.size w7.heap.size B1 B2 Aw cw want A1 c1 (canon L) A2 c2 [⟨500, 502⟩] W := ⟨_, fun _ => Iff.rfl⟩
    have HPS := Aside0.mk hPS
    have PG : Aside0 (∀ W W' row, PS W → W.grownBy W' row → (∀ r, row = some r → n9 ≤ r ∨ r = g) → PS W') := ⟨fun W W' row h hg hr => (hPS W').2 (SB.grown ((hPS W).1 h) hg hr)⟩
    have PS9 := Aside0.mk ((hPS w9).2 HSB.out)
    clear hPS HSB
    have hLpos : (0 : Int) ≤ (L.length : Int) := by omega
    go_loopw [9] (fun v wr => ∃ i : Nat, v = .int .i64 (i : Int) ∧ i ≤ L.length ∧ Aside0 (PS wr ∧ Lst g L.length wr)) (fun v _ => L.length - (intOf v).toNat)
    case atStart => exact ⟨0, rfl, by omega, ⟨PS9.out, LS9.out⟩⟩
    case round =>
      obtain ⟨i, rfl, hi, hP⟩ := hrel
      by_cases hil : i < L.length
      · obtain ⟨u0, x0⟩ := hP.out.2.cell (i * 2) (by omega)
        obtain ⟨u1, x1⟩ := hP.out.2.cell (i * 2 + 1) (by omega)
        have f0 := hP.out.2.frozen (i * 2)
        have f1 := hP.out.2.frozen (i * 2 + 1)
        have hlt : ((i : Int) < (L.length : Int)) = True := eq_true (by omega)
        have h0i : (0 : Int) ≤ (i : Int) := by omega
        go_wp2
        exact ⟨⟨i + 1, by push_cast; rfl, by omega, ⟨PG.out _ _ _ (PG.out _ _ _ hP.out.1 (grown_set _ _ _) (fun r e => .inr (by cases e; rfl))) (grown_set _ _ _) (fun r e => .inr (by cases e; rfl)), (hP.out.2.set _ _).set _ _⟩⟩, by simp only [intOf]; omega⟩
      · have hlt : ((i : Int) < (L.length : Int)) = False := eq_false (by omega)
        go_wp2
        have PSr := Aside0.mk hP.out.1
        clear hP
        refine wp_loop_rounds 3 ?_
        rw [rounds_succ]
        obtain ⟨N, hN⟩ : ∃ N, numsOf (canon L) = N := ⟨_, rfl⟩
        have HN := Aside0.mk hN
        have HWN : Aside0 (N.take (k2 + 1) = want) := ⟨by rw [← hN]; exact HWT.out⟩
        clear hN
        go_upto_region 19 with (fail)
        have REl_b1 : Aside0 (RE PS n9 [] wr.heap.size 0 (wr.alloc (.cells #[.int .i64 0] 3))) := ⟨RE.start PG.out PSr.out (fun D h => by cases h) 3⟩
        have hbn_b1 : n9 ≤ wr.heap.size := ((HPS.out _).1 PSr.out).hn
        have hsz_b1 : (wr.alloc (.cells #[.int .i64 0] 3)).heap.size = wr.heap.size + 1 := World.size_alloc _ _
        generalize hbe_b1 : wr.heap.size = b1 at *
        generalize hWe_b1 : wr.alloc (.cells #[.int .i64 0] 3) = W1 at *
        have y7 := ((HPS.out _).1 REl_b1.out.ps).cells.2.2.2.2
        have hbl_b1 := REl_b1.out.bx.lt
        have hn_b1 : n9 ≤ W1.heap.size := by omega
        have hds_b1 := Marks.lt REl_b1.out.ms
        clear hsz_b1
        go_wp2
        have hWr_b1 : Wr W1 b1 B1 A1 c1 (canon L) := by
          have h := (HPS.out _).1 REl_b1.out.ps
          exact ⟨canon_norm' L, h.x1, by have := h.nB1; omega, REl_b1.out.bx.lt, h.r1, fun ad e => by have := h.n1 ad e; omega⟩
        refine rangeF rfl rfl hWr_b1 4 (fun _ _ h => h) (fun pre W => RI PS n9 [] b1 N k2 pre W) (fun W => RE PS n9 [] b1 (want.length : Int) W) (RI.own PG.out hn_b1 hbl_b1 hds_b1) (RE.own PG.out hn_b1 hbl_b1 hds_b1) ⟨REl_b1.out.ps, REl_b1.out.ms, REl_b1.out.bx, List.nil_prefix, by simp⟩ ?a_b1 ?as_b1 ?bo_b1 ?do_b1 ?fi_b1
        case as_b1 =>
          intro lp x W K hK
          gi_wp2
          exact hK
        case do_b1 =>
          intro W h
          rw [HN.out] at h
          exact ⟨h.ps, h.ms, by have := h.bx; rw [len_end h.le HWN.out] at this; exact this⟩
        case bo_b1 =>
          rintro lp pre x W hI
          obtain ⟨z1, z2, z3, z4, z5⟩ := ((HPS.out _).1 hI.ps).cells
          have xb := hI.bx.cell
          have xbf := hI.bx.frozen
          have zk : ∀ v, (W.setCell ⟨b1, 0, none⟩ v).cell? ⟨w.heap.size, 0, none⟩ = some (.int .i64 (k2 : Int)) := fun v => (((HPS.out _).1 hI.ps).s0.b3.other (by have := ((HPS.out _).1 hI.ps).hg; omega) v).cell
          have hl0 : (0 : Int) ≤ (pre.length : Int) := by omega
          have HI := Aside0.mk hI
          have hle := hI.le
          clear hI
          have w1k : IntKind.i64.wrap ((pre.length : Int) + 1) = (pre.length : Int) + 1 := (i64_w _).trans (by unfold wrap64; omega)
          by_cases hx : pre ++ [x] <+: N
          · obtain ⟨sf, hsf⟩ := pre_want hx hle HWN.out
            obtain ⟨ad, hAd, xa⟩ := ((HPS.out _).1 HI.out.ps).rw pre x sf hsf
            rw [hAd] at z4
            have hwl : pre.length < want.length := by rw [hsf]; simp
            have hl1 : ((want.length : Int) ≤ (pre.length : Int)) = False := eq_false (by omega)
            have hl2 : ((pre.length : Int) < (want.length : Int)) = True := eq_true (by omega)
            have HX := Aside0.mk hx
            clear hx hsf hAd
            have HR := Aside0.mk (HI.out.re.set PG.out hbn_b1 ((pre.length : Int) + 1))
            by_cases hk : (k2 : Int) < (pre.length : Int) + 1
            · gi_wp2
              refine ⟨KeepsOthers.setCell _ _ _, .inl ⟨rfl, fun _ => ?_⟩⟩
              have e1 : (pre.length : Int) + 1 = (want.length : Int) := by
                have h1 := len_full HX.out (by simp; omega) HWN.out
                simp only [List.length_append, List.length_cons, List.length_nil] at h1
                omega
              have r := HR.out
              rw [e1] at r
              first | exact r | (rw [e1]; exact r)
            · gi_wp2
              exact ⟨KeepsOthers.setCell _ _ _, kpc_set _ _ _, ⟨HR.out.ps, HR.out.ms, by have := HR.out.bx; simpa using this, HX.out, by simp; omega⟩⟩
          · rcases pre_not HI.out.pf hx hle HWN.out with hge | ⟨y, sf, hsf, hne⟩
            · have hl1 : ((want.length : Int) ≤ (pre.length : Int)) = True := eq_true (by omega)
              gi_wp2
              exact ⟨KeepsOthers.setCell _ _ _, .inr ⟨rfl, by rw [HN.out]; exact hx⟩⟩
            · obtain ⟨ad, hAd, xa⟩ := ((HPS.out _).1 HI.out.ps).rw pre y sf hsf
              rw [hAd] at z4
              have hwl : pre.length < want.length := by rw [hsf]; simp
              have hl1 : ((want.length : Int) ≤ (pre.length : Int)) = False := eq_false (by omega)
              have hl2 : ((pre.length : Int) < (want.length : Int)) = True := eq_true (by omega)
              clear hsf hAd
              gi_wp2
              exact ⟨KeepsOthers.setCell _ _ _, .inr ⟨rfl, by rw [HN.out]; exact hx⟩⟩
        case fi_b1 =>
          rintro D1 V1 hD_D1 hE hK1
          obtain ⟨z1, z2, z3, z4, z5⟩ := ((HPS.out _).1 hE.ps).cells
          have xb := hE.bx.cell
          have HE_V1 := Aside0.mk hE
          have MS_V1 : Aside0 (Marks n9 [D1] V1) := ⟨Marks.cons hE.ms hn_b1 hD_D1 hK1⟩
          clear hE
          go_upto_region 28 with (fail)
          have REl_b2 : Aside0 (RE PS n9 [D1] V1.heap.size 0 (V1.alloc (.cells #[.int .i64 0] 3))) := ⟨RE.start PG.out HE_V1.out.ps MS_V1.out 3⟩
          have hbn_b2 : n9 ≤ V1.heap.size := ((HPS.out _).1 HE_V1.out.ps).hn
          have hsz_b2 : (V1.alloc (.cells #[.int .i64 0] 3)).heap.size = V1.heap.size + 1 := World.size_alloc _ _
          generalize hbe_b2 : V1.heap.size = b2 at *
          generalize hWe_b2 : V1.alloc (.cells #[.int .i64 0] 3) = W2 at *
          have y7 := ((HPS.out _).1 REl_b2.out.ps).cells.2.2.2.2
          have hbl_b2 := REl_b2.out.bx.lt
          have hn_b2 : n9 ≤ W2.heap.size := by omega
          have hds_b2 := Marks.lt REl_b2.out.ms
          clear hsz_b2
          go_wp2
          have hWr_b2 : Wr W2 b2 B2 A2 c2 [⟨500, 502⟩] := by
            have h := (HPS.out _).1 REl_b2.out.ps
            exact ⟨(by simp [Norm, NormFrom]), h.x2, by have := h.nB2; omega, REl_b2.out.bx.lt, h.r2, fun ad e => by have := h.n2 ad e; omega⟩
          refine rangeF rfl rfl hWr_b2 6 (fun _ _ h => h) (fun pre W => RE PS n9 [D1] b2 (sumW pre) W) (fun W => RE PS n9 [D1] b2 6505 W) (fun s W W' row h hg hr => RE.own PG.out hn_b2 hbl_b2 hds_b2 () W W' row h hg hr) (RE.own PG.out hn_b2 hbl_b2 hds_b2) REl_b2.out ?a_b2 ?as_b2 ?bo_b2 ?do_b2 ?fi_b2
          case as_b2 =>
            intro lp x W K hK
            gi_wp2
            exact hK
          case do_b2 =>
            intro W h
            rw [sumW_end] at h
            exact h
          case bo_b2 =>
            rintro lp pre x W hI
            have xb := hI.bx.cell
            have xbf := hI.bx.frozen
            have HI := Aside0.mk hI
            clear hI
            have HR := Aside0.mk (HI.out.set PG.out hbn_b2 (sumW (pre ++ [x])))
            have hws : IntKind.i64.wrap (IntKind.i64.wrap (3 * sumW pre) + x) = sumW (pre ++ [x]) := by rw [i64_w, i64_w]; exact (sumW_snoc pre x).symm
            by_cases h1 : x < 500
            · gi_wp2
              exact ⟨KeepsOthers.setCell _ _ _, .inl ⟨rfl, fun hp => by have := out_500 hp; omega⟩⟩
            · by_cases h2 : 502 < x
              · gi_wp2
                exact ⟨KeepsOthers.setCell _ _ _, .inl ⟨rfl, fun hp => by have := out_500 hp; omega⟩⟩
              · gi_wp2
                exact ⟨KeepsOthers.setCell _ _ _, kpc_set _ _ _, by have h := HR.out; rw [sumW_snoc] at h; show RE PS n9 [D1] b2 (sumW (pre ++ [x])) _; rw [sumW_snoc]; exact h⟩
          case fi_b2 =>
            rintro D2 V2 hD_D2 hE hK2
            obtain ⟨z1, z2, z3, z4, z5⟩ := ((HPS.out _).1 hE.ps).cells
            have xb := hE.bx.cell
            have HE_V2 := Aside0.mk hE
            have MS_V2 : Aside0 (Marks n9 [D2, D1] V2) := ⟨Marks.cons hE.ms hn_b2 hD_D2 hK2⟩
            clear hE
            go_wp2
            rw [rounds_succ]
            go_upto_region 19 with (fail)
            have REl_b3 : Aside0 (RE PS n9 [D2, D1] V2.heap.size 0 (V2.alloc (.cells #[.int .i64 0] 3))) := ⟨RE.start PG.out HE_V2.out.ps MS_V2.out 3⟩
            have hbn_b3 : n9 ≤ V2.heap.size := ((HPS.out _).1 HE_V2.out.ps).hn
            have hsz_b3 : (V2.alloc (.cells #[.int .i64 0] 3)).heap.size = V2.heap.size + 1 := World.size_alloc _ _
            generalize hbe_b3 : V2.heap.size = b3 at *
            generalize hWe_b3 : V2.alloc (.cells #[.int .i64 0] 3) = W3 at *
            have y7 := ((HPS.out _).1 REl_b3.out.ps).cells.2.2.2.2
            have hbl_b3 := REl_b3.out.bx.lt
            have hn_b3 : n9 ≤ W3.heap.size := by omega
            have hds_b3 := Marks.lt REl_b3.out.ms
            clear hsz_b3
            go_wp2
            have hWr_b3 : Wr W3 b3 B1 A1 c1 (canon L) := by
              have h := (HPS.out _).1 REl_b3.out.ps
              exact ⟨canon_norm' L, h.x1, by have := h.nB1; omega, REl_b3.out.bx.lt, h.r1, fun ad e => by have := h.n1 ad e; omega⟩
            refine rangeF rfl rfl hWr_b3 4 (fun _ _ h => h) (fun pre W => RI PS n9 [D2, D1] b3 N k2 pre W) (fun W => RE PS n9 [D2, D1] b3 (want.length : Int) W) (RI.own PG.out hn_b3 hbl_b3 hds_b3) (RE.own PG.out hn_b3 hbl_b3 hds_b3) ⟨REl_b3.out.ps, REl_b3.out.ms, REl_b3.out.bx, List.nil_prefix, by simp⟩ ?a_b3 ?as_b3 ?bo_b3 ?do_b3 ?fi_b3
            case as_b3 =>
              intro lp x W K hK
              gi_wp2
              exact hK
            case do_b3 =>
              intro W h
              rw [HN.out] at h
              exact ⟨h.ps, h.ms, by have := h.bx; rw [len_end h.le HWN.out] at this; exact this⟩
            case bo_b3 =>
              rintro lp pre x W hI
              obtain ⟨z1, z2, z3, z4, z5⟩ := ((HPS.out _).1 hI.ps).cells
              have xb := hI.bx.cell
              have xbf := hI.bx.frozen
              have zk : ∀ v, (W.setCell ⟨b3, 0, none⟩ v).cell? ⟨w.heap.size, 0, none⟩ = some (.int .i64 (k2 : Int)) := fun v => (((HPS.out _).1 hI.ps).s0.b3.other (by have := ((HPS.out _).1 hI.ps).hg; omega) v).cell
              have hl0 : (0 : Int) ≤ (pre.length : Int) := by omega
              have HI := Aside0.mk hI
              have hle := hI.le
              clear hI
              have w1k : IntKind.i64.wrap ((pre.length : Int) + 1) = (pre.length : Int) + 1 := (i64_w _).trans (by unfold wrap64; omega)
              by_cases hx : pre ++ [x] <+: N
              · obtain ⟨sf, hsf⟩ := pre_want hx hle HWN.out
                obtain ⟨ad, hAd, xa⟩ := ((HPS.out _).1 HI.out.ps).rw pre x sf hsf
                rw [hAd] at z4
                have hwl : pre.length < want.length := by rw [hsf]; simp
                have hl1 : ((want.length : Int) ≤ (pre.length : Int)) = False := eq_false (by omega)
                have hl2 : ((pre.length : Int) < (want.length : Int)) = True := eq_true (by omega)
                have HX := Aside0.mk hx
                clear hx hsf hAd
                have HR := Aside0.mk (HI.out.re.set PG.out hbn_b3 ((pre.length : Int) + 1))
                by_cases hk : (k2 : Int) < (pre.length : Int) + 1
                · gi_wp2
                  refine ⟨KeepsOthers.setCell _ _ _, .inl ⟨rfl, fun _ => ?_⟩⟩
                  have e1 : (pre.length : Int) + 1 = (want.length : Int) := by
                    have h1 := len_full HX.out (by simp; omega) HWN.out
                    simp only [List.length_append, List.length_cons, List.length_nil] at h1
                    omega
                  have r := HR.out
                  rw [e1] at r
                  first | exact r | (rw [e1]; exact r)
                · gi_wp2
                  exact ⟨KeepsOthers.setCell _ _ _, kpc_set _ _ _, ⟨HR.out.ps, HR.out.ms, by have := HR.out.bx; simpa using this, HX.out, by simp; omega⟩⟩
              · rcases pre_not HI.out.pf hx hle HWN.out with hge | ⟨y, sf, hsf, hne⟩
                · have hl1 : ((want.length : Int) ≤ (pre.length : Int)) = True := eq_true (by omega)
                  gi_wp2
                  exact ⟨KeepsOthers.setCell _ _ _, .inr ⟨rfl, by rw [HN.out]; exact hx⟩⟩
                · obtain ⟨ad, hAd, xa⟩ := ((HPS.out _).1 HI.out.ps).rw pre y sf hsf
                  rw [hAd] at z4
                  have hwl : pre.length < want.length := by rw [hsf]; simp
                  have hl1 : ((want.length : Int) ≤ (pre.length : Int)) = False := eq_false (by omega)
                  have hl2 : ((pre.length : Int) < (want.length : Int)) = True := eq_true (by omega)
                  clear hsf hAd
                  gi_wp2
                  exact ⟨KeepsOthers.setCell _ _ _, .inr ⟨rfl, by rw [HN.out]; exact hx⟩⟩
            case fi_b3 =>
              rintro D3 V3 hD_D3 hE hK3
              obtain ⟨z1, z2, z3, z4, z5⟩ := ((HPS.out _).1 hE.ps).cells
              have xb := hE.bx.cell
              have HE_V3 := Aside0.mk hE
              have MS_V3 : Aside0 (Marks n9 [D3, D2, D1] V3) := ⟨Marks.cons hE.ms hn_b3 hD_D3 hK3⟩
              clear hE
              go_upto_region 28 with (fail)
              have REl_b4 : Aside0 (RE PS n9 [D3, D2, D1] V3.heap.size 0 (V3.alloc (.cells #[.int .i64 0] 3))) := ⟨RE.start PG.out HE_V3.out.ps MS_V3.out 3⟩
              have hbn_b4 : n9 ≤ V3.heap.size := ((HPS.out _).1 HE_V3.out.ps).hn
              have hsz_b4 : (V3.alloc (.cells #[.int .i64 0] 3)).heap.size = V3.heap.size + 1 := World.size_alloc _ _
              generalize hbe_b4 : V3.heap.size = b4 at *
              generalize hWe_b4 : V3.alloc (.cells #[.int .i64 0] 3) = W4 at *
              have y7 := ((HPS.out _).1 REl_b4.out.ps).cells.2.2.2.2
              have hbl_b4 := REl_b4.out.bx.lt
              have hn_b4 : n9 ≤ W4.heap.size := by omega
              have hds_b4 := Marks.lt REl_b4.out.ms
              clear hsz_b4
              go_wp2
              have hWr_b4 : Wr W4 b4 B2 A2 c2 [⟨500, 502⟩] := by
                have h := (HPS.out _).1 REl_b4.out.ps
                exact ⟨(by simp [Norm, NormFrom]), h.x2, by have := h.nB2; omega, REl_b4.out.bx.lt, h.r2, fun ad e => by have := h.n2 ad e; omega⟩
              refine rangeF rfl rfl hWr_b4 6 (fun _ _ h => h) (fun pre W => RE PS n9 [D3, D2, D1] b4 (sumW pre) W) (fun W => RE PS n9 [D3, D2, D1] b4 6505 W) (fun s W W' row h hg hr => RE.own PG.out hn_b4 hbl_b4 hds_b4 () W W' row h hg hr) (RE.own PG.out hn_b4 hbl_b4 hds_b4) REl_b4.out ?a_b4 ?as_b4 ?bo_b4 ?do_b4 ?fi_b4
              case as_b4 =>
                intro lp x W K hK
                gi_wp2
                exact hK
              case do_b4 =>
                intro W h
                rw [sumW_end] at h
                exact h
              case bo_b4 =>
                rintro lp pre x W hI
                have xb := hI.bx.cell
                have xbf := hI.bx.frozen
                have HI := Aside0.mk hI
                clear hI
                have HR := Aside0.mk (HI.out.set PG.out hbn_b4 (sumW (pre ++ [x])))
                have hws : IntKind.i64.wrap (IntKind.i64.wrap (3 * sumW pre) + x) = sumW (pre ++ [x]) := by rw [i64_w, i64_w]; exact (sumW_snoc pre x).symm
                by_cases h1 : x < 500
                · gi_wp2
                  exact ⟨KeepsOthers.setCell _ _ _, .inl ⟨rfl, fun hp => by have := out_500 hp; omega⟩⟩
                · by_cases h2 : 502 < x
                  · gi_wp2
                    exact ⟨KeepsOthers.setCell _ _ _, .inl ⟨rfl, fun hp => by have := out_500 hp; omega⟩⟩
                  · gi_wp2
                    exact ⟨KeepsOthers.setCell _ _ _, kpc_set _ _ _, by have h := HR.out; rw [sumW_snoc] at h; show RE PS n9 [D3, D2, D1] b4 (sumW (pre ++ [x])) _; rw [sumW_snoc]; exact h⟩
              case fi_b4 =>
                rintro D4 V4 hD_D4 hE hK4
                obtain ⟨z1, z2, z3, z4, z5⟩ := ((HPS.out _).1 hE.ps).cells
                have xb := hE.bx.cell
                have HE_V4 := Aside0.mk hE
                have MS_V4 : Aside0 (Marks n9 [D4, D3, D2, D1] V4) := ⟨Marks.cons hE.ms hn_b4 hD_D4 hK4⟩
                clear hE
                go_wp2
                rw [rounds_succ]
                go_upto_region 35 with (fail)
                have REl_b5 : Aside0 (RE PS n9 [D4, D3, D2, D1] V4.heap.size 0 (V4.alloc (.cells #[.int .i64 0] 3))) := ⟨RE.start PG.out HE_V4.out.ps MS_V4.out 3⟩
                have hbn_b5 : n9 ≤ V4.heap.size := ((HPS.out _).1 HE_V4.out.ps).hn
                have hsz_b5 : (V4.alloc (.cells #[.int .i64 0] 3)).heap.size = V4.heap.size + 1 := World.size_alloc _ _
                generalize hbe_b5 : V4.heap.size = b5 at *
                generalize hWe_b5 : V4.alloc (.cells #[.int .i64 0] 3) = W5 at *
                have y7 := ((HPS.out _).1 REl_b5.out.ps).cells.2.2.2.2
                have hbl_b5 := REl_b5.out.bx.lt
                have hn_b5 : n9 ≤ W5.heap.size := by omega
                have hds_b5 := Marks.lt REl_b5.out.ms
                clear hsz_b5
                go_wp2
                have hWr_b5 : Wr W5 b5 B1 A1 c1 (canon L) := by
                  have h := (HPS.out _).1 REl_b5.out.ps
                  exact ⟨canon_norm' L, h.x1, by have := h.nB1; omega, REl_b5.out.bx.lt, h.r1, fun ad e => by have := h.n1 ad e; omega⟩
                have hNpos := Aside0.mk (num_pos HLL.out)
                rw [HN.out] at hNpos
                refine rangeG rfl rfl hWr_b5 8 (fun _ _ h => h) (fun pre W => RI PS n9 [D4, D3, D2, D1] b5 N (min k2 2) pre W) (fun W => ∃ v : Nat, 1 ≤ v ∧ RE PS n9 [D4, D3, D2, D1] b5 (v : Int) W) (RI.own PG.out hn_b5 hbl_b5 hds_b5) (RE.own' PG.out hn_b5 hbl_b5 hds_b5) ⟨REl_b5.out.ps, REl_b5.out.ms, REl_b5.out.bx, List.nil_prefix, by simp⟩ ?a_b5 ?as_b5 ?bo_b5 ?do_b5 ?fi_b5
                case as_b5 =>
                  intro lp x W K hK
                  gi_wp2
                  exact hK
                case do_b5 =>
                  intro W h
                  rw [HN.out] at h
                  exact ⟨N.length, hNpos.out, h.ps, h.ms, h.bx⟩
                case bo_b5 =>
                  rintro lp pre x W hlp ⟨rl, hrl⟩ hI
                  obtain ⟨z1, z2, z3, z4, z5⟩ := ((HPS.out _).1 hI.ps).cells
                  have xb := hI.bx.cell
                  have xbf := hI.bx.frozen
                  have hl0 : (0 : Int) ≤ (pre.length : Int) := by omega
                  have HI := Aside0.mk hI
                  have hle := hI.le
                  have hsW : W.heap.size = W.heap.size := rfl
                  clear hI
                  have w1k : IntKind.i64.wrap ((pre.length : Int) + 1) = (pre.length : Int) + 1 := (i64_w _).trans (by unfold wrap64; omega)
                  by_cases hx : pre ++ [x] <+: N
                  · obtain ⟨sf, hsf⟩ := pre_want hx (by omega) HWN.out
                    obtain ⟨ad, hAd, xa⟩ := ((HPS.out _).1 HI.out.ps).rw pre x sf hsf
                    rw [hAd] at z4
                    have hwl : pre.length < want.length := by rw [hsf]; simp
                    have hl1 : ((want.length : Int) ≤ (pre.length : Int)) = False := eq_false (by omega)
                    have hl2 : ((pre.length : Int) < (want.length : Int)) = True := eq_true (by omega)
                    have HX := Aside0.mk hx
                    clear hx hsf hAd
                    have HR := Aside0.mk (HI.out.re.set PG.out hbn_b5 ((pre.length : Int) + 1))
                    gi_upto_region 41 with (fail)
                    have hss : (W.setCell ⟨b5, 0, none⟩ (.int .i64 ((pre.length : Int) + 1))).heap.size = W.heap.size := by simp
                    have hal : World.grownBy (W.setCell ⟨b5, 0, none⟩ (.int .i64 ((pre.length : Int) + 1))) ((W.setCell ⟨b5, 0, none⟩ (.int .i64 ((pre.length : Int) + 1))).alloc (.cells #[.int .i64 0] 3)) none := World.grownBy_alloc _ _ none
                    have h5W := HI.out.bx.lt
                    have rE0 := RE.start PG.out HR.out.ps HR.out.ms 3
                    rw [hss] at rE0
                    have REl_b6 := Aside0.mk rE0
                    have BO5 := Aside0.mk (HR.out.bx.kept hal (by simp))
                    have hlne : lp ≠ b5 := fun e => by rw [e, show W.heap[b5]? = _ from HI.out.bx] at hrl; cases hrl
                    have hl6 : ((W.setCell ⟨b5, 0, none⟩ (.int .i64 ((pre.length : Int) + 1))).alloc (.cells #[.int .i64 0] 3)).heap[lp]? = some (.loop rl) := (hal.block lp (by rw [hss]; exact (Array.getElem?_eq_some_iff.1 hrl).1) (by simp)).trans ((Below.heap_setCell _ _ _ lp hlne).trans hrl)
                    have KF6 : Aside0 (KeepsFrom W5.heap.size W ((W.setCell ⟨b5, 0, none⟩ (.int .i64 ((pre.length : Int) + 1))).alloc (.cells #[.int .i64 0] 3))) := ⟨((KeepsOthers.setCell _ _ _).trans (KeepsOthers.alloc _ _)).from _⟩
                    have KP6 : Aside0 (KpC b5 W ((W.setCell ⟨b5, 0, none⟩ (.int .i64 ((pre.length : Int) + 1))).alloc (.cells #[.int .i64 0] 3))) := ⟨(kpc_set _ _ _).trans (KpC.grown hal (fun r e => by cases e))⟩
                    have hbn_b6 : n9 ≤ W.heap.size := ((HPS.out _).1 HI.out.ps).hn
                    clear hal rE0 hss
                    obtain ⟨b6, hb6⟩ : ∃ b, W.heap.size = b := ⟨_, rfl⟩
                    rw [hb6] at REl_b6 hbn_b6 h5W ⊢
                    generalize hWe_b6 : (W.setCell ⟨b5, 0, none⟩ (.int .i64 ((pre.length : Int) + 1))).alloc (.cells #[.int .i64 0] 3) = W6 at *
                    have y7 := ((HPS.out _).1 REl_b6.out.ps).cells.2.2.2.2
                    have hbl_b6 := REl_b6.out.bx.lt
                    have hn_b6 : n9 ≤ W6.heap.size := by omega
                    have hds_b6 := Marks.lt REl_b6.out.ms
                    gi_wp2
                    have hWr_b6 : Wr W6 b6 B1 A1 c1 (canon L) := by
                      have h := (HPS.out _).1 REl_b6.out.ps
                      exact ⟨canon_norm' L, h.x1, by have := h.nB1; omega, REl_b6.out.bx.lt, h.r1, fun ad e => by have := h.n1 ad e; omega⟩
                    refine rangeN hl6 rfl rfl hWr_b6 10 (fun _ _ h => h) (fun pre2 W2 => RJ W W5.heap.size b5 ((pre.length : Int) + 1) (RI PS n9 [D4, D3, D2, D1] b6 N (min k2 2) pre2) W2) (fun W2 => RJ W W5.heap.size b5 ((pre.length : Int) + 1) (fun V => PS V ∧ Marks n9 [D4, D3, D2, D1] V) W2) (RJ.own (RI.own PG.out hn_b6 hbl_b6 hds_b6) (by omega) (by omega)) (fun s A A' row h hg hr => RJ.own (R := fun (_ : Unit) V => PS V ∧ Marks n9 [D4, D3, D2, D1] V) (RM.own PG.out hn_b6 hds_b6) (by omega) (by omega) s A A' row h hg hr) ⟨⟨REl_b6.out.ps, REl_b6.out.ms, REl_b6.out.bx, List.nil_prefix, by simp⟩, BO5.out, KF6.out, KP6.out⟩ ?a_b6 ?as_b6 ?bo_b6 ?do_b6 ?fi_b6
                    case as_b6 =>
                      intro lp2 x2 W2 K2 hK2
                      gi_wp2
                      exact hK2
                    case do_b6 =>
                      intro W2 h
                      exact ⟨⟨h.r.ps, h.r.ms⟩, h.bo, h.kf, h.kp⟩
                    case bo_b6 =>
                      rintro lp2 pre2 x2 W2 hJ
                      obtain ⟨z1, z2, z3, z4, z5⟩ := ((HPS.out _).1 hJ.r.ps).cells
                      have xb := hJ.r.bx.cell
                      have xbf := hJ.r.bx.frozen
                      have zk : ∀ v, (W2.setCell ⟨b6, 0, none⟩ v).cell? ⟨w.heap.size, 0, none⟩ = some (.int .i64 (k2 : Int)) := fun v => (((HPS.out _).1 hJ.r.ps).s0.b3.other (by have := ((HPS.out _).1 hJ.r.ps).hg; omega) v).cell
                      have hl20 : (0 : Int) ≤ (pre2.length : Int) := by omega
                      have HJ := Aside0.mk hJ
                      have hle2 := hJ.r.le
                      clear hJ
                      have w2k : IntKind.i64.wrap ((pre2.length : Int) + 1) = (pre2.length : Int) + 1 := (i64_w _).trans (by unfold wrap64; omega)
                      by_cases hx2 : pre2 ++ [x2] <+: N
                      · obtain ⟨sf2, hsf2⟩ := pre_want hx2 (by omega) HWN.out
                        obtain ⟨ad2, hAd2, xa2⟩ := ((HPS.out _).1 HJ.out.r.ps).rw pre2 x2 sf2 hsf2
                        rw [hAd2] at z4
                        have hwl2 : pre2.length < want.length := by rw [hsf2]; simp
                        have hm1 : ((want.length : Int) ≤ (pre2.length : Int)) = False := eq_false (by omega)
                        have hm2 : ((pre2.length : Int) < (want.length : Int)) = True := eq_true (by omega)
                        have HX2 := Aside0.mk hx2
                        clear hx2 hsf2 hAd2
                        have HR2 := Aside0.mk (HJ.out.r.re.set PG.out hbn_b6 ((pre2.length : Int) + 1))
                        by_cases hc3 : (3 : Int) ≤ (pre2.length : Int) + 1
                        · gi_wp2
                          exact ⟨(KeepsOthers.setCell _ _ _).from _, .inl ⟨rfl, fun _ => HJ.out.set (by omega) (by omega) ⟨HR2.out.ps, HR2.out.ms⟩⟩⟩
                        · by_cases hck : (k2 : Int) < (pre2.length : Int) + 1
                          · gi_wp2
                            exact ⟨(KeepsOthers.setCell _ _ _).from _, .inl ⟨rfl, fun _ => HJ.out.set (by omega) (by omega) ⟨HR2.out.ps, HR2.out.ms⟩⟩⟩
                          · gi_wp2
                            exact ⟨(KeepsOthers.setCell _ _ _).from _, kpc_set _ _ _, HJ.out.set (by omega) (by omega) ⟨HR2.out.ps, HR2.out.ms, by have := HR2.out.bx; simpa using this, HX2.out, by simp; omega⟩⟩
                      · rcases pre_not HJ.out.r.pf hx2 (by omega) HWN.out with hge | ⟨y, sf2, hsf2, hne⟩
                        · have hm1 : ((want.length : Int) ≤ (pre2.length : Int)) = True := eq_true (by omega)
                          gi_wp2
                          exact ⟨(KeepsOthers.setCell _ _ _).from _, .inr ⟨rfl, by rw [HN.out]; exact hx2⟩⟩
                        · obtain ⟨ad2, hAd2, xa2⟩ := ((HPS.out _).1 HJ.out.r.ps).rw pre2 y sf2 hsf2
                          rw [hAd2] at z4
                          have hwl2 : pre2.length < want.length := by rw [hsf2]; simp
                          have hm1 : ((want.length : Int) ≤ (pre2.length : Int)) = False := eq_false (by omega)
                          have hm2 : ((pre2.length : Int) < (want.length : Int)) = True := eq_true (by omega)
                          clear hsf2 hAd2
                          gi_wp2
                          exact ⟨(KeepsOthers.setCell _ _ _).from _, .inr ⟨rfl, by rw [HN.out]; exact hx2⟩⟩
                    case fi_b6 =>
                      intro W2 hJ
                      obtain ⟨z1, z2, z3, z4, z5⟩ := ((HPS.out _).1 hJ.r.1).cells
                      have xb := hJ.bo.cell
                      have HJ := Aside0.mk hJ
                      clear hJ
                      by_cases hc3 : (3 : Int) ≤ (pre.length : Int) + 1
                      · gi_wp2
                        exact ⟨HJ.out.kf, .inl ⟨rfl, fun _ => ⟨pre.length + 1, by omega, HJ.out.r.1, HJ.out.r.2, by have := HJ.out.bo; push_cast; exact this⟩⟩⟩
                      · by_cases hck : (k2 : Int) < (pre.length : Int) + 1
                        · gi_wp2
                          exact ⟨HJ.out.kf, .inl ⟨rfl, fun _ => ⟨pre.length + 1, by omega, HJ.out.r.1, HJ.out.r.2, by have := HJ.out.bo; push_cast; exact this⟩⟩⟩
                        · gi_wp2
                          exact ⟨HJ.out.kf, HJ.out.kp, ⟨HJ.out.r.1, HJ.out.r.2, by have := HJ.out.bo; simpa using this, HX.out, by simp; omega⟩⟩
                  · rcases pre_not HI.out.pf hx (by omega) HWN.out with hge | ⟨y, sf, hsf, hne⟩
                    · have hl1 : ((want.length : Int) ≤ (pre.length : Int)) = True := eq_true (by omega)
                      gi_wp2
                      exact ⟨(KeepsOthers.setCell _ _ _).from _, .inr ⟨rfl, by rw [HN.out]; exact hx⟩⟩
                    · obtain ⟨ad, hAd, xa⟩ := ((HPS.out _).1 HI.out.ps).rw pre y sf hsf
                      rw [hAd] at z4
                      have hwl : pre.length < want.length := by rw [hsf]; simp
                      have hl1 : ((want.length : Int) ≤ (pre.length : Int)) = False := eq_false (by omega)
                      have hl2 : ((pre.length : Int) < (want.length : Int)) = True := eq_true (by omega)
                      clear hsf hAd
                      gi_wp2
                      exact ⟨(KeepsOthers.setCell _ _ _).from _, .inr ⟨rfl, by rw [HN.out]; exact hx⟩⟩
                case fi_b5 =>
                  rintro D5 V5 hD_D5 ⟨v, hv, hE⟩ hK5
                  obtain ⟨z1, z2, z3, z4, z5⟩ := ((HPS.out _).1 hE.ps).cells
                  have xb := hE.bx.cell
                  have hvp : ((0 : Int) < (v : Int)) = True := eq_true (by omega)
                  have HE5 := Aside0.mk hE
                  clear hE
                  go_wp2
                  have MS5 : Marks n9 [D5, D4, D3, D2, D1] V5 := Marks.cons HE5.out.ms hn_b5 hD_D5 hK5
                  have n4 : D4 < D5 := Nat.lt_of_lt_of_le (hds_b5 D4 (by simp)) hD_D5
                  have n3 : D3 < D4 := Nat.lt_of_lt_of_le (hds_b4 D3 (by simp)) hD_D4
                  have n2 : D2 < D3 := Nat.lt_of_lt_of_le (hds_b3 D2 (by simp)) hD_D3
                  have n1 : D1 < D2 := Nat.lt_of_lt_of_le (hds_b2 D1 (by simp)) hD_D2
                  have hnd : [D5, D4, D3, D2, D1].Nodup := by
                    simp only [List.nodup_cons, List.mem_cons, List.not_mem_nil, or_false, not_or, List.nodup_nil, not_false_eq_true, and_true]
                    omega
                  have s5 := (HPS.out _).1 HE5.out.ps
                  have hgn := s5.hg
                  rw [show decide (0 < v) = true from decide_eq_true (by omega)]
                  refine walks_end (n := n9) (ds := [D5, D4, D3, D2, D1]) (by omega) hnd (fun D hD => ⟨(MS5 D hD).1, (Below.heap_setCell _ _ _ D (by have := (MS5 D hD).1; show D ≠ w.heap.size + 1; omega)).trans (MS5 D hD).2⟩) (s5.s0.b4.set _) (s5.s0.bw.setCell (p := ⟨w.heap.size + 1, 0, none⟩) (by simp) _) rfl
end Go.Proofs.Ytcblhfnjcanliaa.G
