/- The reference's Print: the same text. -/
import Derived.Test.YtlmdhpfggobogaaDoorPrt
import Derived.Lib.SlBytesConst
import Derived.ArgAppend
namespace Go.Proofs.YtlmdhpfggobogaaDoor.G
open Go.RowKit Go.Proofs.YtlmdhpfggobogaaDoorW.PrintWords Go.Proofs.YtlmdhpfggobogaaDoorW.PrintLast Go.Proofs.YtlmdhpfggobogaaDoorW.PrintMore
set_option linter.unusedVariables false
def barrowref24_Print.f (a0 a1 a2 a3 a4 a5 : Int) (l : List S29) : Option ByteArray := if okP a0 a1 a2 a3 a4 a5 l then some (strOfNums (printI a0 a1 a2 a3 a4 a5 l)) else none
theorem st64 {ops : Array Oper} {rest : List Oper} {o : Oper} {a : Act} {Q : Exit → Act → World → Prop} {w : World} {O C : Array Value} {x y : Operand} (hgd : o.guard = none)
  (ho : o.op = .store 64 x y) (hd : o.dst = none) (hx : a.eval x = .pointer (some ⟨w.heap.size, 0, none⟩)) (hy : a.eval y = .agg C)
  (hO : O.size = 6) (hC : C.size = 6) (h1 : C.all (·.oneCell') = true) (h : wpList Tryd.prog ops Q rest a (w.alloc (.cells C 64))) :
  wpList Tryd.prog ops Q (o :: rest) a (w.alloc (.cells O 64)) :=
 wpList_store_rowTo hgd 64 x y ho hd w.heap.size C hx hy 64 O (heap_alloc_last w _) (by rw [hC]; kernel_rfl) (by omega) h1
  (by rw [show (w.alloc (.cells O 64)).setRow w.heap.size C = w.alloc (.cells C 64) from World.setRow_alloc_new w O C 64]; exact h)
theorem conv_event {ops : Array Oper} {rest : List Oper} {o : Oper} {a : Act} {Q : Exit → Act → World → Prop} {W : World} {C : Array Value} (hgd : o.guard = none) (ho : o.op = .convert 48 48 (.tmp 7))
    (hx : a.eval (.tmp 7) = .slice (some ⟨W.heap.size, 0, none⟩) 5 5) (hC : C.size = 5)
    (h : ∀ g w2, g = W.heap.size → w2.heap[g]? = some (.cells C 5 (5, 6)) → Below W.heap.size W w2 → w2.heap.size = g + 1 → wpList Tryd.prog ops Q rest (a.put o.dst (.slice (some ⟨g, 0, none⟩) 5 5)) w2) :
    wpList Tryd.prog ops Q (o :: rest) a (W.alloc (.cells C 5)) := by
  have kc := Lib.run_convert_bytes_const (P := Tryd.prog) W 48 5 C 5 5 Tryd.underlying48 Tryd.underlying5
  rw [hC] at kc
  refine wpList_plain hgd fun K hK => ?_
  unfold Oper.wp execOp
  simp only [ho, Sem.run_bind, Sem.run_pure, Result.andThen_ok, hx, kc]
  exact hK _ _ (h _ _ rfl (blk_new W _) (below_alloc (Below.refl _ _) _) (by simp))
theorem lit1 (W : World) (x : Int) : ∀ j u, ([Value.int .u8 x] : List Value)[j]? = some u → (W.alloc (.cells #[.int .u8 x] 5)).cell? ((⟨W.heap.size, 0, none⟩ : Addr).add j) = some u := by
  intro j u hj
  rcases j with _ | j
  · cases hj
    have e : (⟨W.heap.size, 0, none⟩ : Addr).add 0 = ⟨W.heap.size, 0, none⟩ := rfl
    rw [e, Lib.cell_of_heap (blk_new W _)]; rfl
  · cases hj
theorem lit1c (x : Int) : ∀ u ∈ [Value.int .u8 x], u.oneCell' = true := by
  intro u hu
  simp at hu; subst hu; rfl
theorem row0 {W : World} {g : Nat} (h : W.heap[g]? = some (.cells #[.int .u8 115, .int .u8 116, .int .u8 111, .int .u8 114, .int .u8 101] 5 (5, 6))) (j : Nat) {u : Value} (hj : (encs (Value.int .u8) storeI)[j]? = some u) : W.cell? ((⟨g, 0, none⟩ : Addr).add j) = some u := by
  have e : (⟨g, 0, none⟩ : Addr).add j = ⟨g, j, none⟩ := by
    by_cases hz : j = 0
    · subst hz; rfl
    · simp [Addr.add, hz]
  rw [e, Lib.cell_of_heap h]
  rcases j with _ | _ | _ | _ | _ | j
  all_goals first | exact hj | (simp [storeI, encs] at hj)
set_option maxHeartbeats 4000000 in
set_option maxRecDepth 100000 in
theorem barrowref24_Print.calls (a0_0 a0_1 a0_2 a0_3 a0_4 a0_5 : Int) (A0_6 : Option Addr) (c0_6 : Nat) (l0_6 : List S29) (r : ByteArray) (w : World) (hr0_6 : Kd.C k29 w A0_6 l0_6.length l0_6) (hc0_6 : l0_6.length ≤ c0_6)
    (h : barrowref24_Print.f a0_0 a0_1 a0_2 a0_3 a0_4 a0_5 l0_6 = some r) :
    Calls Tryd.prog 15 #[.agg #[.int .i64 a0_0, .int .i64 a0_1, .int .i64 a0_2, .int .i64 a0_3, .int .i64 a0_4, .int .i64 a0_5, .slice A0_6 l0_6.length c0_6]] w fun e w' => e = .returned (.string r) ∧ Below w.heap.size w w' := by
  unfold barrowref24_Print.f at h
  by_cases hok : okP a0_0 a0_1 a0_2 a0_3 a0_4 a0_5 l0_6
  case neg => rw [if_neg hok] at h; cases h
  rw [if_pos hok] at h
  have HR := Aside0.mk (Option.some.inj h)
  have HK := Aside0.mk hok
  have HOps := Aside0.mk hr0_6
  have hlen : (l0_6.length : Int) ≤ 1048576 := by have := hok.2.1; omega
  clear h hok hr0_6
  have S1 : True := trivial
  have S2 : True := trivial
  go_enter Tryd.func15, Tryd.ntmps15
  go_wp2_with (first | (clear S1; (with_reducible refine gate_dst (N := 1) rfl ?_); refine box_event ?hg (N := 1) ?hd (cs := #[.int .i64 a0_0, .int .i64 a0_1, .int .i64 a0_2, .int .i64 a0_3, .int .i64 a0_4, .int .i64 a0_5, .slice A0_6 l0_6.length c0_6]) (t := 26) ?hr ?_; (case hd => rfl); (case hg => rfl); (case hr => first | (go_simp; done) | (go_simp; rfl)); intro gx hgx w1 hbox hb1; have n0 := Aside0.mk hbox; have n1 := Aside0.mk hb1; clear hbox hb1 hgx) | (clear S2; (with_reducible refine gate_dst (N := 8) rfl ?_); refine conv_event rfl rfl rfl rfl ?_; intro g0 w2 hg0 hrow hb2 hsz; have m1 := Aside0.mk hrow; have m2 := Aside0.mk (blk_below n0.out hb2); have m3 := Aside0.mk (below_step n1.out hb2); have m4 := Aside0.mk hsz; have n9 := Aside0.mk (show w.heap.size ≤ g0 by rw [hg0]; exact n1.out.size); have c0 : w2.cell? ⟨gx, 0, none⟩ = some (.int .i64 a0_0) := (by rw [Lib.cell_of_heap m2.out]; rfl); have c1 : w2.cell? ⟨gx, 1, none⟩ = some (.int .i64 a0_1) := (by rw [Lib.cell_of_heap m2.out]; rfl); have c2 : w2.cell? ⟨gx, 2, none⟩ = some (.int .i64 a0_2) := (by rw [Lib.cell_of_heap m2.out]; rfl); have c3 : w2.cell? ⟨gx, 3, none⟩ = some (.int .i64 a0_3) := (by rw [Lib.cell_of_heap m2.out]; rfl); have c4 : w2.cell? ⟨gx, 4, none⟩ = some (.int .i64 a0_4) := (by rw [Lib.cell_of_heap m2.out]; rfl); have c5 : w2.cell? ⟨gx, 5, none⟩ = some (.int .i64 a0_5) := (by rw [Lib.cell_of_heap m2.out]; rfl); clear hrow hb2 hsz hg0 n0 n1) | (refine st64 rfl rfl rfl rfl rfl rfl rfl rfl ?_; clear c0 c1 c2 c3 c4 c5) | go_in)
  have n5 := Aside0.mk (below_alloc m3.out (.cells #[.int .i64 a0_0, .int .i64 a0_1, .int .i64 a0_2, .int .i64 a0_3, .int .i64 a0_4, .int .i64 a0_5] 64))
  have n6 := Aside0.mk (blk_new w2 (.cells #[.int .i64 a0_0, .int .i64 a0_1, .int .i64 a0_2, .int .i64 a0_3, .int .i64 a0_4, .int .i64 a0_5] 64))
  have n7 := Aside0.mk (blk_alloc m2.out (.cells #[.int .i64 a0_0, .int .i64 a0_1, .int .i64 a0_2, .int .i64 a0_3, .int .i64 a0_4, .int .i64 a0_5] 64))
  have n8 := Aside0.mk (blk_alloc m1.out (.cells #[.int .i64 a0_0, .int .i64 a0_1, .int .i64 a0_2, .int .i64 a0_3, .int .i64 a0_4, .int .i64 a0_5] 64))
  obtain ⟨hh, hhh⟩ : ∃ hh, w2.heap.size = hh := ⟨_, rfl⟩
  rw [hhh] at n6
  rw [hhh]
  obtain ⟨i0, hi, hz0, hz1, hz2⟩ := info_parts info5
  have HI0 := Aside0.mk hi
  have HI1 := Aside0.mk hz0
  have HI2 := Aside0.mk hz1
  have HI3 := Aside0.mk hz2
  clear hhh m1 m2 m3 m4 hi hz0 hz1 hz2
  try clear c0 c1 c2 c3 c4 c5
  go_loopw [5, 3] (fun v5 v3 wr => ∃ (i : Nat) (xs : List Int), v5 = .int .i64 i ∧ i ≤ 6 ∧ Aside0 (xs = storeI ++ numsI ((headNums a0_0 a0_1 a0_2 a0_3 a0_4 a0_5).take i)) ∧ ((i = 0 ∧ v3 = .slice (some ⟨g0, 0, none⟩) 5 5 ∧ Aside0 (wr.heap[g0]? = some (.cells #[.int .u8 115, .int .u8 116, .int .u8 111, .int .u8 114, .int .u8 101] 5 (5, 6)))) ∨ 0 < i ∧ Aside0 (Kd.R (Kd.int .u8) 5 wr w.heap.size (fun _ => True) v3 xs)) ∧ Aside0 (Below w.heap.size w wr) ∧ Aside0 (wr.heap[hh]? = some (.cells #[.int .i64 a0_0, .int .i64 a0_1, .int .i64 a0_2, .int .i64 a0_3, .int .i64 a0_4, .int .i64 a0_5] 64 (0, 0))) ∧ Aside0 (wr.heap[gx]? = some (.cells #[.int .i64 a0_0, .int .i64 a0_1, .int .i64 a0_2, .int .i64 a0_3, .int .i64 a0_4, .int .i64 a0_5, .slice A0_6 l0_6.length c0_6] 26 (0, 0)))) (fun v5 _ _ => 6 - toN v5)
  case atStart => exact ⟨0, storeI, rfl, by omega, ⟨rfl⟩, .inl ⟨rfl, rfl, n8⟩, n5, n6, n7⟩
  case round =>
    obtain ⟨i, xs, rfl, hi, RS, RO, RW, RH, RX⟩ := hrel
    clear n5 n6 n7 n8
    have hSl : xs.length ≤ 200 := by rw [RS.out]; exact head_len HK.out i
    by_cases h6 : i < 6
    · obtain ⟨V, hV1, hV2, hV3⟩ := num_cell a0_0 a0_1 a0_2 a0_3 a0_4 a0_5 i h6
      have hin := HK.out.1 V hV2
      obtain ⟨k, hk⟩ := (number_ev (xs ++ [32]) V hin (by simp; omega)).rounds
      have A1 := Aside0.mk hk
      have A2 := Aside0.mk hV3
      have hV1' : ∀ W : World, W.heap[hh]? = some (.cells #[.int .i64 a0_0, .int .i64 a0_1, .int .i64 a0_2, .int .i64 a0_3, .int .i64 a0_4, .int .i64 a0_5] 64 (0, 0)) → W.cell? ⟨hh, i, none⟩ = some (.int .i64 V) := fun W hW => by rw [Lib.cell_of_heap hW]; exact hV1
      have A3 := Aside0.mk hV1'
      clear hk hin hV1 hV1' hV2 hV3
      obtain ⟨ys, hys⟩ : ∃ ys, xs ++ [32] ++ numI V = ys := ⟨_, rfl⟩
      have HY := Aside0.mk hys
      rw [hys] at A1
      clear hys
      obtain ⟨zs, hzs⟩ : ∃ zs, xs ++ [32] = zs := ⟨_, rfl⟩
      have HZ := Aside0.mk hzs
      rw [hzs] at A1
      clear hzs
      have hnext : ys = storeI ++ numsI ((headNums a0_0 a0_1 a0_2 a0_3 a0_4 a0_5).take (i + 1)) := by
        rw [← HY.out, RS.out, A2.out]; simp [numsI]
      have HN := Aside0.mk hnext
      clear hnext
      have hw := wrap_succ i (by omega)
      have S3 : True := trivial
      rcases RO with ⟨rfl, rfl, RO⟩ | ⟨hpos, RO⟩
      · have HZ1 := Aside0.mk (show storeI ++ [32] = zs by rw [← HZ.out, RS.out]; rfl)
        go_wp2_with (first | (clear S3; (with_reducible refine gate_builtin (b := .append) (xs := #[.tmp 32, .tmp 33]) rfl ?_); at_builtin; refine wpList_append_grows _ rfl (.tmp 32) (.tmp 33) 48 rfl 5 i0 (.int .u8 0) 1 1 Tryd.underlying48 HI0.out HI1.out HI2.out HI3.out rfl (by decide) (some ⟨g0, 0, none⟩) 5 5 (encs (Value.int .u8) storeI) rfl (fun h => by cases h) rfl (by intro b e j u hj; cases e; exact row0 (blk_alloc RO.out _) _ hj) ⟨wr.heap.size, 0, none⟩ 1 1 [.int .u8 32] rfl rfl (lit1 wr 32) (lit1c 32) (by omega) (by decide) (by decide) ?_; intro v33 w5 hown hg; have m0 := Aside0.mk (show Kd.R (Kd.int .u8) 5 w5 w.heap.size (fun _ => True) v33 zs from HZ1.out ▸ Kd.R_lower (Kd.R_of_own (xs := storeI ++ [32]) hown (fun _ _ => trivial)) (below_alloc RW.out _).size); have m1 := Aside0.mk ((below_alloc RW.out _).grown hg (below_alloc RW.out _).size (fun k hk => by cases hk)); have m2 := Aside0.mk (blk_grown (blk_alloc RH.out _) hg (by simp)); have m3 := Aside0.mk (blk_grown (blk_alloc RX.out _) hg (by simp)); have g1 := A3.out _ m2.out; clear hown hg; obtain ⟨Ao, co, eo⟩ := Kd.R_slice m0.out; subst eo) | (go_at_call 33; refine (barrowref24_number.calls k (fun k_ => some k_ = (Value.slice Ao zs.length co).ownBlock) (.slice Ao zs.length co) zs V ys w _ m1.out (Kd.R_tight rfl m0.out) A1.out).mono ?_; rintro e w6 ⟨v6, rfl, ho, hb, hkp⟩; have p0 := Aside0.mk (Kd.R_mono (ok' := fun _ => True) ho (fun _ _ => trivial)); have p1 := Aside0.mk hb; have p2 := Aside0.mk (blk_kept m2.out hkp (fun e_ => Kd.R_ne m0.out m2.out (by decide) e_)); have p3 := Aside0.mk (blk_kept m3.out hkp (fun e_ => Kd.R_ne m0.out m3.out (by decide) e_)); clear ho hb hkp g1) | go_in)
        go_roundw
        case rel => exact ⟨0 + 1, ys, rfl, by omega, HN, .inr ⟨by omega, p0⟩, p1, p2, p3⟩
        case measure => simp only [toN]; omega
      · obtain ⟨A0, cc, e0⟩ := Kd.R_slice RO.out
        subst e0
        go_wp2_with (first | (clear S3; (with_reducible refine gate_builtin (b := .append) (xs := #[.tmp 32, .tmp 33]) rfl ?_); at_builtin; refine Kd.R_append (Kd.int .u8) (w0 := w) w.heap.size rfl (.tmp 32) (.tmp 33) 48 5 (.int .u8 0) 1 rfl Tryd.underlying48 info5 rfl (by decide) (by omega) (.slice A0 xs.length cc) xs 32 [.int .u8 32] (fun _ => True) (fun _ => False) rfl rfl ?aP (fun _ hk => hk.elim) ?aF ?aO ?aB ?aS ?aL ?_; (case aP => exact rfl); (case aB => exact RW.out); (case aF => exact fun _ _ => trivial); (case aO => exact RO.out); (case aS => exact RW.out.size); (case aL => omega); intro v33 w5 ho hb hg hat; rw [HZ.out] at ho; have m0 := Aside0.mk ho; have m1 := Aside0.mk hb; have m2 := Aside0.mk (blk_grown RH.out hg (Kd.R_ne RO.out RH.out (by decide))); have m3 := Aside0.mk (blk_grown RX.out hg (Kd.R_ne RO.out RX.out (by decide))); have g1 := A3.out _ m2.out; clear ho hb hg hat; obtain ⟨Ao, co, eo⟩ := Kd.R_slice m0.out; subst eo) | (go_at_call 33; refine (barrowref24_number.calls k (fun k_ => some k_ = (Value.slice Ao zs.length co).ownBlock) (.slice Ao zs.length co) zs V ys w _ m1.out (Kd.R_tight rfl m0.out) A1.out).mono ?_; rintro e w6 ⟨v6, rfl, ho, hb, hkp⟩; have p0 := Aside0.mk (Kd.R_mono (ok' := fun _ => True) ho (fun _ _ => trivial)); have p1 := Aside0.mk hb; have p2 := Aside0.mk (blk_kept m2.out hkp (fun e_ => Kd.R_ne m0.out m2.out (by decide) e_)); have p3 := Aside0.mk (blk_kept m3.out hkp (fun e_ => Kd.R_ne m0.out m3.out (by decide) e_)); clear ho hb hkp g1) | go_in)
        go_roundw
        case rel => exact ⟨i + 1, ys, rfl, by omega, HN, .inr ⟨by omega, p0⟩, p1, p2, p3⟩
        case measure => simp only [toN]; omega
    · obtain rfl : i = 6 := by omega
      have hxf : xs = storeI ++ numsI (headNums a0_0 a0_1 a0_2 a0_3 a0_4 a0_5) := RS.out
      have HXF := Aside0.mk hxf
      clear hxf
      rcases RO with ⟨h0, _⟩ | ⟨_, RO⟩
      · exact absurd h0 (by decide)
      obtain ⟨A0, cc, e0⟩ := Kd.R_slice RO.out
      subst e0
      have S3 : True := trivial
      obtain ⟨zs, hzs⟩ : ∃ zs, xs ++ [10] = zs := ⟨_, rfl⟩
      have HZ := Aside0.mk hzs
      have HF2 := Aside0.mk (show zs = frontI a0_0 a0_1 a0_2 a0_3 a0_4 a0_5 ++ (l0_6.take 0).flatMap opI by rw [← hzs, HXF.out, List.take_zero, List.flatMap_nil, List.append_nil]; rfl)
      clear hzs
      go_wp2_with (first | (clear S3; (with_reducible refine gate_builtin (b := .append) (xs := #[.tmp 40, .tmp 41]) rfl ?_); at_builtin; refine Kd.R_append (Kd.int .u8) (w0 := w) w.heap.size rfl (.tmp 40) (.tmp 41) 48 5 (.int .u8 0) 1 rfl Tryd.underlying48 info5 rfl (by decide) (by omega) (.slice A0 xs.length cc) xs 10 [.int .u8 10] (fun _ => True) (fun _ => False) rfl rfl ?aP (fun _ hk => hk.elim) ?aF ?aO ?aB ?aS ?aL ?_; (case aP => exact rfl); (case aB => exact RW.out); (case aF => exact fun _ _ => trivial); (case aO => exact RO.out); (case aS => exact RW.out.size); (case aL => omega); intro v33 w5 ho hb hg hat; rw [HZ.out] at ho; have m0 := Aside0.mk ho; have m1 := Aside0.mk hb; have m3 := Aside0.mk (blk_grown RX.out hg (Kd.R_ne RO.out RX.out (by decide))); clear ho hb hg hat; obtain ⟨Ao, co, eo⟩ := Kd.R_slice m0.out; subst eo) | go_in)
      clear RS RO RW RH RX HXF HZ
      go_loopw [6, 3] (fun v6 v3 wl => ∃ (j : Nat) (xs : List Int), v6 = .int .i64 j ∧ j ≤ l0_6.length ∧ Aside0 (xs = frontI a0_0 a0_1 a0_2 a0_3 a0_4 a0_5 ++ (l0_6.take j).flatMap opI) ∧ Aside0 (Kd.R (Kd.int .u8) 5 wl w.heap.size (fun _ => True) v3 xs) ∧ Aside0 (Below w.heap.size w wl) ∧ Aside0 (wl.heap[gx]? = some (.cells #[.int .i64 a0_0, .int .i64 a0_1, .int .i64 a0_2, .int .i64 a0_3, .int .i64 a0_4, .int .i64 a0_5, .slice A0_6 l0_6.length c0_6] 26 (0, 0)))) (fun v6 _ _ => l0_6.length - toN v6)
      case atStart => exact ⟨0, _, rfl, Nat.zero_le _, HF2, m0, m1, m3⟩
      case round =>
        clear hSl
        obtain ⟨j, xs, rfl, hj, RS, RO, RW, RX⟩ := hrel
        have hSl : xs.length ≤ 21000000000000 := by rw [RS.out]; exact front_len HK.out j
        clear HF2 m0 m1 m3
        obtain ⟨A0, cc, e0⟩ := Kd.R_slice RO.out
        subst e0
        have c6 : wr.cell? ⟨gx, 6, none⟩ = some (.slice A0_6 l0_6.length c0_6) := by rw [Lib.cell_of_heap RX.out]; rfl
        by_cases h6 : j < l0_6.length
        · have hC := Kd.C_below HOps.out RW.out
          obtain ⟨ad, e, hx0, hx1, hx2, hx3, hx4, hx5, hx6⟩ := at_T29 hC (j : Int) (by omega) (by omega)
          subst e
          simp only [Int.toNat_natCast] at hx0 hx1 hx2 hx3 hx4 hx5 hx6
          obtain ⟨o, ho⟩ : ∃ o, rd_T29 l0_6 (j : Int) = o := ⟨_, rfl⟩
          have hoj : l0_6[j] = o := by rw [← rd29_at l0_6 j h6]; exact ho
          rw [ho] at hx0 hx1 hx2 hx3 hx4 hx5 hx6
          have hok : okS o := HK.out.2.2 o (by rw [← hoj]; exact List.getElem_mem _)
          have htk : (l0_6.take (j + 1)).flatMap opI = (l0_6.take j).flatMap opI ++ opI o := by
            rw [List.take_succ_eq_append_getElem h6, List.flatMap_append, hoj]; simp
          obtain ⟨k, hk⟩ := (rline_ev (show okO o.f0 o.f1 o.f2 o.f3 o.f4 o.f5 o.f6 from hok) xs (by omega)).rounds
          have hll := line_len (show okO o.f0 o.f1 o.f2 o.f3 o.f4 o.f5 o.f6 from hok)
          have A1 := Aside0.mk hk
          have A2 := Aside0.mk htk
          clear hk htk hok hoj ho hC
          obtain ⟨ys, hys⟩ : ∃ ys, xs ++ lineI o.f0 o.f1 o.f2 o.f3 o.f4 o.f5 o.f6 = ys := ⟨_, rfl⟩
          have hyl : ys.length ≤ 22000000000000 := by rw [← hys, List.length_append]; omega
          have hnext : ys ++ [10] = frontI a0_0 a0_1 a0_2 a0_3 a0_4 a0_5 ++ (l0_6.take (j + 1)).flatMap opI := by
            rw [← hys, RS.out, A2.out]; simp [opI]
          have HN := Aside0.mk hnext
          rw [hys] at A1
          obtain ⟨zs, hzs⟩ : ∃ zs, ys ++ [10] = zs := ⟨_, rfl⟩
          have HZ := Aside0.mk hzs
          rw [hzs] at HN
          clear hys hnext hll hzs
          have hw := wrap_succ j (by omega)
          have S3 : True := trivial
          go_wp2_with (first | (go_at_call 34; refine (barrowref24_line.calls k (fun k_ => some k_ = (Value.slice A0 xs.length cc).ownBlock) (.slice A0 xs.length cc) xs o.f0 o.f1 o.f2 o.f3 o.f4 o.f5 o.f6 ys w _ RW.out (Kd.R_tight rfl RO.out) A1.out).mono ?_; rintro e w6 ⟨v6, rfl, ho, hb, hkp⟩; have q0 := Aside0.mk (Kd.R_mono (ok' := fun _ => True) ho (fun _ _ => trivial)); have q1 := Aside0.mk hb; have q3 := Aside0.mk (blk_kept RX.out hkp (fun e_ => Kd.R_ne RO.out RX.out (by decide) e_)); clear ho hb hkp; obtain ⟨A6, c6', eo⟩ := Kd.R_slice q0.out; subst eo) | (clear S3; (with_reducible refine gate_builtin (b := .append) (xs := #[.tmp 57, .tmp 58]) rfl ?_); at_builtin; refine Kd.R_append (Kd.int .u8) (w0 := w) w.heap.size rfl (.tmp 57) (.tmp 58) 48 5 (.int .u8 0) 1 rfl Tryd.underlying48 info5 rfl (by decide) (by omega) (.slice A6 ys.length c6') ys 10 [.int .u8 10] (fun _ => True) (fun _ => False) rfl rfl ?aP (fun _ hk => hk.elim) ?aF ?aO ?aB ?aS ?aL ?_; (case aP => exact rfl); (case aB => exact q1.out); (case aF => exact fun _ _ => trivial); (case aO => exact q0.out); (case aS => exact q1.out.size); (case aL => omega); intro v33 w5 ho hb hg hat; rw [HZ.out] at ho; have m0 := Aside0.mk ho; have m1 := Aside0.mk hb; have m3 := Aside0.mk (blk_grown q3.out hg (Kd.R_ne q0.out q3.out (by decide))); clear ho hb hg hat; obtain ⟨Ao, co, eo⟩ := Kd.R_slice m0.out; subst eo) | go_in)
          go_roundw
          case rel => exact ⟨j + 1, zs, rfl, by omega, HN, m0, m1, m3⟩
          case measure => simp only [toN]; omega
        · obtain rfl : j = l0_6.length := by omega
          have hS := RS.out
          rw [List.take_length] at hS
          have HS2 := Aside0.mk hS
          clear hS
          have hcv := own_string (P := Tryd.prog) Tryd.underlying48 Tryd.underlying5 Tryd.underlying9 (Kd.own_of_R RO.out)
          go_wp2
          go_ret
          refine ⟨?_, RW.out⟩
          have e : strOfNums xs = r := by rw [← HR.out, HS2.out]; rfl
          rw [← e]
          rfl
end Go.Proofs.YtlmdhpfggobogaaDoor.G
