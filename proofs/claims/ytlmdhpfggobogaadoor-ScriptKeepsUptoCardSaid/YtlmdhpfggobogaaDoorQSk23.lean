import Derived.Test.YtlmdhpfggobogaaDoorQSk17
import Derived.Test.YtlmdhpfggobogaaDoorQSk20
import Derived.Test.YtlmdhpfggobogaaDoorQSk19
import Derived.Test.YtlmdhpfggobogaaDoorQSk5
import Derived.BigRegion
import Derived.Test.YtlmdhpfggobogaaDoorQSk16
import Derived.Test.YtlmdhpfggobogaaDoorQSk14
namespace Go.Proofs.YtlmdhpfggobogaaDoor.G
open Go.RowKit Go.Proofs.YtlmdhpfggobogaaDoorW.PrintWords Go.Proofs.YtlmdhpfggobogaaDoorW.PrintLast Go.Proofs.YtlmdhpfggobogaaDoorW.PrintMore
set_option linter.unusedVariables false
def kindUpto (x : ByteArray) : Nat → Int
  | 0 => 0
  | n + 1 => if (shp ((n + 1 : Nat) : Int)).1.toList == x.toList then ((n + 1 : Nat) : Int) else kindUpto x n
def setF (o : S29) (c v : Int) : S29 :=
  if c = 114 then { o with f1 := v } else if c = 99 then { o with f2 := v } else if c = 116 then { o with f3 := v } else if c = 113 then { o with f5 := v } else if c = 110 then { o with f6 := v } else { o with f0 := v }
def readAll (k : Nat) : List Int → List ByteArray → S29 → Option (Option S29)
  | [], _, o => some (some o)
  | _ :: _, [], _ => none
  | c :: t, x :: xs, o =>
    if c = 115 then (script_readSku.f k x).bind fun r => if r.2 = true then readAll k t xs { o with f4 := r.1 } else some none
    else (script_readNumber.f x).bind fun r => if r.2 = true then readAll k t xs (setF o c r.1) else some none
def knownI (k : Int) : Bool := decide (1 ≤ k ∧ k ≤ 16)
theorem dr_heap {W W' : World} (h : Drawn0 W W') (k : Nat) {o : Obj} (hk : W.heap[k]? = some o) : W'.heap[k]? = some o := by
  obtain ⟨nd, rfl⟩ := h; exact hk
theorem dr_below {B : Nat} {w W W' : World} (h : Drawn0 W W') (hb : Below B w W) : Below B w W' := by
  obtain ⟨nd, rfl⟩ := h; exact pw_below_drewN hb nd
theorem known_eq (a : Int) : script_known.f a = some (knownI a) := by
  unfold script_known.f knownI
  by_cases h : a ≥ 1
  · rw [if_pos h]; congr 1; by_cases h2 : a ≤ 16 <;> simp <;> omega
  · rw [if_neg h]; congr 1; symm; simp; omega
def zeroO : S29 := ⟨0, 0, 0, 0, ⟨#[]⟩, 0, 0⟩
def tupB (o : S29) (b : Bool) : Int × Int × Int × Int × ByteArray × Int × Int × Bool := (o.f0, o.f1, o.f2, o.f3, o.f4, o.f5, o.f6, b)
def stepEnd (kd : Int) : Option S29 → Int × Int × Int × Int × ByteArray × Int × Int × Bool
  | none => tupB zeroO false
  | some o => if knownI kd = false ∧ knownI o.f0 = true then tupB zeroO false else tupB o true
theorem stepEnd_good {kd : Int} {o : S29} (h : knownI kd = true ∨ knownI o.f0 = false) : stepEnd kd (some o) = tupB o true := by
  show (if knownI kd = false ∧ knownI o.f0 = true then tupB zeroO false else tupB o true) = tupB o true
  rw [if_neg]
  rintro ⟨e1, e2⟩
  rcases h with h | h
  · rw [h] at e1; cases e1
  · rw [h] at e2; cases e2
theorem stepEnd_bad {kd : Int} {o : S29} (h1 : knownI kd = false) (h3 : knownI o.f0 = true) : stepEnd kd (some o) = tupB zeroO false := by
  show (if knownI kd = false ∧ knownI o.f0 = true then tupB zeroO false else tupB o true) = tupB zeroO false
  rw [if_pos ⟨h1, h3⟩]
def stepC (k : Nat) (x : ByteArray) (xs : List ByteArray) : Option (Int × Int × Int × Int × ByteArray × Int × Int × Bool) :=
  if (x :: xs).length < 4611686018427387904 then
    (if (shp (kindUpto x 16)).1.toList == x.toList then
      (if xs.length = (shp (kindUpto x 16)).2.size then (readAll k (bytesOf (shp (kindUpto x 16)).2) xs ⟨kindUpto x 16, 0, 0, 0, ⟨#[]⟩, 0, 0⟩).map (stepEnd (kindUpto x 16)) else some (tupB zeroO false))
    else some (tupB zeroO false))
  else none
def script_step.f (k : Nat) (l : List ByteArray) : Option (Int × Int × Int × Int × ByteArray × Int × Int × Bool) :=
  match l with
  | [] => none
  | x :: xs => stepC k x xs
theorem readAll.mono : ∀ (L : List Int) (xs : List ByteArray) (o : S29) (k : Nat), LeO (readAll k L xs o) (readAll (k + 1) L xs o)
  | [], _, _, _ => LeO.refl _
  | _ :: _, [], _, _ => LeO.refl _
  | c :: t, x :: xs, o, k => by
    unfold readAll
    refine LeO.ite ?_ ?_
    · exact LeO.bind (script_readSku.mono _ _) (fun r => LeO.ite (readAll.mono t xs _ k) (LeO.refl _))
    · exact LeO.bind (LeO.refl _) (fun r => LeO.ite (readAll.mono t xs _ k) (LeO.refl _))
theorem cells_of_string {w : World} {ad : Addr} {l : List ByteArray} (h : Kd.C Kd.string w (some ad) l.length l) (j : Nat) (x : ByteArray) (hx : l[j]? = some x) : w.cell? (ad.add j) = some (.string x) := by
  have hj := (List.getElem?_eq_some_iff.1 hx).1
  obtain ⟨ad', e, hc⟩ := Kd.at_string h (j : Int) (by omega) (by omega)
  cases e
  rw [Int.toNat_natCast] at hc
  rw [hc]
  unfold rdOf
  rw [Int.toNat_natCast, List.getD_eq_getElem?_getD, hx]
  rfl
set_option maxHeartbeats 8000000 in
set_option maxRecDepth 100000 in
theorem script_step.calls (k : Nat) (A0 : Option Addr) (c0 : Nat) (l0 : List ByteArray) (r1 r2 r3 r4 : Int) (r5 : ByteArray) (r6 r7 : Int) (r8 : Bool) (w : World) (hTab : Aside0 (Tab w)) (hTabE : Aside0 (TabE w)) (hr0 : Kd.C Kd.string w A0 l0.length l0) (hc0 : l0.length ≤ c0)
    (h : script_step.f k l0 = some (r1, r2, r3, r4, r5, r6, r7, r8)) :
    Calls Tryd.prog 37 #[.slice A0 l0.length c0] w fun e w' => e = .returned (.tuple #[.agg #[.int .i64 r1, .int .i64 r2, .int .i64 r3, .int .i64 r4, .string r5, .int .i64 r6, .int .i64 r7], .bool r8]) ∧ Below w.heap.size w w' := by
  cases l0 with
  | nil => cases h
  | cons x xs =>
    have h : stepC k x xs = some (r1, r2, r3, r4, r5, r6, r7, r8) := h
    unfold stepC at h
    by_cases hlen : (x :: xs).length < 4611686018427387904
    case neg => rw [if_neg hlen] at h; cases h
    rw [if_pos hlen] at h
    obtain ⟨RES, hRES⟩ : ∃ R : S29, R = ⟨r1, r2, r3, r4, r5, r6, r7⟩ := ⟨_, rfl⟩
    have hV : (Value.agg #[.int .i64 r1, .int .i64 r2, .int .i64 r3, .int .i64 r4, .string r5, .int .i64 r6, .int .i64 r7]) = .agg (cellsA RES) := by rw [hRES]; rfl
    rw [hV]
    have hT : (r1, r2, r3, r4, r5, r6, r7, r8) = tupB RES r8 := by rw [hRES]; rfl
    rw [hT] at h
    have H := Aside0.mk h
    clear h hV hT hRES
    obtain ⟨ad, eA, _⟩ := Kd.at_string hr0 0 (by omega) (by simp only [List.length_cons]; omega)
    subst eA
    have HC := Aside0.mk (fun W (hb : Below w.heap.size w W) => cells_of_string (Kd.C_below hr0 hb))
    clear hr0
    have hlen2 : ((x :: xs).length : Int) < 4611686018427387904 := by omega
    obtain ⟨nL, hn0⟩ : ∃ nL, (x :: xs).length = nL := ⟨_, rfl⟩
    have HN0 := Aside0.mk hn0
    have hpos : 0 < nL := by rw [← hn0]; simp
    rw [hn0] at hlen hlen2 hc0
    rw [hn0]
    have HLN := Aside0.mk (show 0 < nL ∧ nL < 4611686018427387904 ∧ nL ≤ c0 from ⟨hpos, hlen, hc0⟩)
    clear hn0 hlen hlen2 hc0
    have S1 : True := trivial
    go_enter Tryd.func37, Tryd.ntmps37
    go_wp2_with (first | (clear S1; (with_reducible refine gate_dst (N := 2) rfl ?_); refine box_event ?hg (N := 2) ?hd (cs := #[.int .i64 0, .int .i64 0, .int .i64 0, .int .i64 0, .string ⟨#[]⟩, .int .i64 0, .int .i64 0]) (t := 29) ?hr ?_; (case hd => rfl); (case hg => rfl); (case hr => first | (go_simp; done) | (go_simp; rfl)); intro gr hgr w1 hbox hb1; have n0 := Aside0.mk hbox; have n1 := Aside0.mk hb1; have n2 := Aside0.mk (show w.heap.size ≤ gr by rw [hgr]; exact Nat.le_refl _); clear hbox hb1 hgr) | go_in)
    go_loopw [5, 4] (fun v5 v4 wr => ∃ (m : Nat) (kv : Int), v5 = .int .i64 m ∧ v4 = .int .i64 kv ∧ 1 ≤ m ∧ m ≤ 17 ∧ Aside0 (kv = kindUpto x (m - 1)) ∧ Aside0 (wr.heap[gr]? = some (.cells #[.int .i64 0, .int .i64 0, .int .i64 0, .int .i64 0, .string ⟨#[]⟩, .int .i64 0, .int .i64 0] 29 (0, 0))) ∧ Aside0 (Below w.heap.size w wr)) (fun v5 _ _ => 17 - toN v5)
    case atStart => exact ⟨1, 0, rfl, rfl, by omega, by omega, ⟨rfl⟩, n0, n1⟩
    case round =>
      obtain ⟨m, kv, rfl, rfl, hm1, hm17, HKV, HR, HW⟩ := hrel
      by_cases h16 : m < 17
      · have hcell : wr.cell? ad = some (.string x) := HC.out wr HW.out 0 x rfl
        obtain ⟨W1, hW1⟩ : ∃ W1, (shp (m : Int)).1 = W1 := ⟨_, rfl⟩
        obtain ⟨F1, hF1⟩ : ∃ F1, (shp (m : Int)).2 = F1 := ⟨_, rfl⟩
        have HS := Aside0.mk (show script_shapeOf.f (m : Int) = some (W1, F1) by rw [shp_eq, ← hW1, ← hF1])
        have hfd : ∀ w : World, (Instr.field 74 (.agg #[.string W1, .string F1]) 0).run Tryd.prog w = .ok (.string W1) w := fun _ => by kernel_rfl
        have hk1 : kindUpto x m = if W1.toList == x.toList then (m : Int) else kv := by
          obtain ⟨n, rfl⟩ : ∃ n, m = n + 1 := ⟨m - 1, by omega⟩
          rw [← hW1, HKV.out]; rfl
        have HK1 := Aside0.mk hk1
        clear hk1 hW1 hF1
        have hle : (m : Int) ≤ 16 := by omega
        go_wp2
        go_region_with (first | (refine (script_shapeOf.calls m W1 F1 _ HS.out).mono ?_; rintro e w3 ⟨rfl, hb3⟩; have m0 := Aside0.mk (blk_below (w := wr.drew) HR.out hb3); have m1 := Aside0.mk (below_step (below_drew HW.out) hb3); have hcell3 : w3.cell? ad = some (.string x) := HC.out w3 m1.out 0 x rfl; clear hb3))
        all_goals
          have HA := Aside0.mk (show 1 ≤ m ∧ m < 17 from ⟨hm1, h16⟩)
          have HL2 := Aside0.mk hpos
          clear hfd hcell hle hcell3 h16 hm1 hm17 hpos
          go_wp2
          all_goals
            go_roundw
            case rel =>
              first
                | (have hb : (W1.toList == x.toList) = true := by assumption
                   exact ⟨m + 1, m, (by rw [wrap_succ m (by have := HA.out; omega)]), rfl, by omega, by have := HA.out; omega, ⟨by rw [Nat.add_sub_cancel, HK1.out, if_pos hb]⟩, m0, m1⟩)
                | (have hb : (W1.toList == x.toList) = false := by assumption
                   exact ⟨m + 1, kv, (by rw [wrap_succ m (by have := HA.out; omega)]), rfl, by omega, by have := HA.out; omega, ⟨by rw [Nat.add_sub_cancel, HK1.out, hb]; rfl⟩, m0, m1⟩)
            case measure => have := HA.out; rw [wrap_succ m (by omega)]; simp only [toN]; omega
      · obtain rfl : m = 17 := by omega
        have hkv : kv = kindUpto x 16 := HKV.out
        have H2 := H.out
        rw [← hkv] at H2
        obtain ⟨_, _, hlet, _, hF4⟩ := shapes kv
        obtain ⟨W1, hW1⟩ : ∃ W1, (shp kv).1 = W1 := ⟨_, rfl⟩
        obtain ⟨F1, hF1⟩ : ∃ F1, (shp kv).2 = F1 := ⟨_, rfl⟩
        have HS := Aside0.mk (show script_shapeOf.f kv = some (W1, F1) by rw [shp_eq, ← hW1, ← hF1])
        rw [hW1, hF1] at H2
        rw [hF1] at hlet hF4
        have HH := Aside0.mk H2
        have HLet := Aside0.mk hlet
        have HA := Aside0.mk hF4
        clear H2 hW1 hF1 hlet hkv hm1 hm17 h16 HKV H n0 n1 hF4
        have S2 : True := trivial
        go_wp2_with (first | (refine st74 rfl rfl rfl rfl rfl rfl rfl rfl ?_) | (clear S2; go_at_call 41; refine (script_shapeOf.calls kv W1 F1 _ HS.out).mono ?_; rintro e w3 ⟨rfl, hb3⟩; have m0 := Aside0.mk (blk_below HR.out hb3); have m1 := Aside0.mk (below_step HW.out hb3); clear hb3) | go_in)
        have m2 := Aside0.mk (blk_alloc m0.out (.cells #[.string W1, .string F1] 74))
        have m3 := Aside0.mk (below_alloc m1.out (.cells #[.string W1, .string F1] 74))
        have m4 := Aside0.mk (blk_new w3 (.cells #[.string W1, .string F1] 74))
        obtain ⟨g6, hg6⟩ : ∃ g6, w3.heap.size = g6 := ⟨_, rfl⟩
        obtain ⟨w4, hw4⟩ : ∃ w4, w3.alloc (.cells #[.string W1, .string F1] 74) = w4 := ⟨_, rfl⟩
        rw [hg6, hw4] at m4
        rw [hw4] at m2 m3
        rw [hg6, hw4]
        clear hg6 hw4 m0 m1 HR HW
        have hs0 : w4.cell? ⟨g6, 0, none⟩ = some (.string W1) := by rw [Lib.cell_of_heap m4.out]; rfl
        have hs1 : w4.cell? ⟨g6, 1, none⟩ = some (.string F1) := by rw [Lib.cell_of_heap m4.out]; rfl
        have hcell : w4.cell? ad = some (.string x) := HC.out w4 m3.out 0 x rfl
        by_cases hb : (W1.toList == x.toList) = true
        · by_cases hl : nL = F1.size + 1
          · have HX := HH.out
            rw [if_pos hb, if_pos (by have := HN0.out; simp only [List.length_cons] at this; omega)] at HX
            obtain ⟨q, hq, hqe⟩ := Option.map_eq_some_iff.1 HX
            have HQ := Aside0.mk hq
            have HQE := Aside0.mk hqe
            have hb3 : (!(W1.toList == x.toList)) = false := by rw [hb]; rfl
            have hF4 := HA.out
            have hl1 : (nL : Int) = (F1.size : Int) + 1 := by omega
            have q1 : ((nL : Int) == (F1.size : Int) + 1) = true := beq_iff_eq.mpr hl1
            have q2 : ((nL : Int) != (F1.size : Int) + 1) = false := bne_eq_false_iff_eq.mpr hl1
            have HL1 := Aside0.mk hl
            clear HX hq hqe hl hl1
            go_quiet (fail)
            have S3 : True := trivial
            have S4 : True := trivial
            clear q1 q2 hb hb3
            go_wp2_with (first | (clear S3; (with_reducible refine gate_dst (N := 7) rfl ?_); refine box_event ?hg (N := 7) ?hd (cs := #[.int .i64 0, .int .i64 0, .int .i64 0, .int .i64 0, .string ⟨#[]⟩, .int .i64 0, .int .i64 0]) (t := 29) ?hr ?_; (case hd => rfl); (case hg => rfl); (case hr => first | (go_simp; done) | (go_simp; rfl)); intro gp hgp w5 hbox hb5; have p0 := Aside0.mk hbox; have p1 := Aside0.mk (below_step (pw_below_drewN m3.out _) hb5); have p2 := Aside0.mk (blk_below (blk_drewN m2.out _) hb5); have p3 := Aside0.mk (blk_below (blk_drewN m4.out _) hb5); have p4 := Aside0.mk (show w.heap.size ≤ gp by rw [hgp]; exact (pw_below_drewN m3.out _).size); have p5 := Aside0.mk (show gr ≠ gp by rw [hgp]; exact Nat.ne_of_lt (blk_lt (blk_drewN m2.out _))); have p6 := Aside0.mk (show g6 ≠ gp by rw [hgp]; exact Nat.ne_of_lt (blk_lt (blk_drewN m4.out _))); clear hbox hb5 hgp) | (clear S4; refine st29at (g := gp) rfl rfl rfl rfl rfl p0.out rfl rfl (by first | rfl | (simp [Value.oneCell'])) ?_; intro w6 h6 hk6 hb6; have q0 := Aside0.mk h6; have q1 := Aside0.mk (hb6 _ _ p1.out p4.out); have q2 := Aside0.mk (hk6 _ _ p2.out p5.out); have q3 := Aside0.mk (hk6 _ _ p3.out p6.out); have hs2 : w6.cell? ⟨g6, 1, none⟩ = some (.string F1) := (by rw [Lib.cell_of_heap q3.out]; rfl); clear h6 hk6 hb6) | go_in)
            obtain ⟨K, hK⟩ : ∃ K, K = w6.heap.size := ⟨_, rfl⟩
            have HKs := Aside0.mk hK
            clear hK hs2 hs0 hs1 hcell
            go_loopw [] (fun wr => ∃ (pos : Nat) (o : S29), Aside0 (pos ≤ F1.size) ∧ Aside0 (wr.heap[K]? = some (.stringIter F1 pos)) ∧ Aside0 (wr.heap[gp]? = some (.cells (cellsA o) 29 (0, 0))) ∧ Aside0 (readAll k ((bytesOf F1).drop pos) (xs.drop pos) o = some q) ∧ Aside0 (wr.heap[gr]? = some (.cells #[.int .i64 0, .int .i64 0, .int .i64 0, .int .i64 0, .string ⟨#[]⟩, .int .i64 0, .int .i64 0] 29 (0, 0))) ∧ Aside0 (Below w.heap.size w wr)) (fun wr => F1.size - wr.iterPos K)
            case atStart =>
              refine ⟨0, ⟨kv, 0, 0, 0, ⟨#[]⟩, 0, 0⟩, ⟨Nat.zero_le _⟩, ⟨?_⟩, ⟨blk_alloc q0.out _⟩, HQ, ⟨blk_alloc q2.out _⟩, ⟨below_alloc q1.out _⟩⟩
              have := World.iter_heap w6 F1 0
              rw [HKs.out]
              simpa using this
            case round =>
              obtain ⟨pos, o, HP, HI, HG, HRA, HZ, HW⟩ := hrel
              clear HQ
              by_cases hp : pos < F1.size
              · have hxl : xs.length = F1.size := by have h1 := HN0.out; have h2 := HL1.out; simp only [List.length_cons] at h1; omega
                have hpx : pos < xs.length := by omega
                have hmem : bt F1 pos ∈ bytesOf F1 := by
                  rw [bt_getD, Int.toNat_natCast, List.getD_eq_getElem?_getD, List.getElem?_eq_getElem (by rw [bytesOf_length]; exact hp)]; exact List.getElem_mem _
                have hlet := HLet.out _ hmem
                have hbt : ((F1[pos]'hp).toNat : Int) = bt F1 pos := by unfold bt; rw [dif_pos (by simpa using hp)]; rfl
                have hasc : (F1[pos]'hp).toNat < 128 := by omega
                have hnx : ∀ ty, (Instr.next (.pointer (some ⟨K, 0, none⟩)) true ty).run Tryd.prog wr = _ := fun ty => Lib.run_next_ascii_at wr K F1 pos ty HI.out hp hasc
                rw [hbt] at hnx
                have hra := HRA.out
                rw [bytesOf_drop F1 pos hp, List.drop_eq_getElem_cons hpx] at hra
                have HI2 := Aside0.mk (Lib.iterAt_heap wr K F1 pos (pos + 1) HI.out)
                have nek : ∀ g cs, wr.heap[g]? = some (.cells cs 29 (0, 0)) → g ≠ K := by intro g cs h1 e; rw [e, HI.out] at h1; cases h1
                have HG2 := Aside0.mk ((Lib.iterAt_other wr K gp F1 (pos + 1) (nek _ _ HG.out)).trans HG.out)
                have HZ2 := Aside0.mk ((Lib.iterAt_other wr K gr F1 (pos + 1) (nek _ _ HZ.out)).trans HZ.out)
                have HW2 := Aside0.mk (Lib.below_iterAt HW.out (k := K) (by rw [HKs.out]; exact q1.out.size) F1 (pos + 1))
                have HN1 := Aside0.mk (nek _ _ HG.out)
                obtain ⟨W2, hW2⟩ : ∃ W, wr.iterAt K F1 (pos + 1) = W := ⟨_, rfl⟩
                rw [hW2] at hnx HI2 HG2 HZ2 HW2
                have hm2 : F1.size - W2.iterPos K < F1.size - wr.iterPos K := by simp only [World.iterPos, HI2.out, HI.out]; omega
                have HM2 := Aside0.mk hm2
                have HHP := Aside0.mk hp
                obtain ⟨y, hy⟩ : ∃ y, xs[pos] = y := ⟨_, rfl⟩
                rw [hy] at hra
                have hcy : ∀ W, Below w.heap.size w W → W.cell? ⟨ad.block, ad.off + (pos + 1), none⟩ = some (.string y) := fun W hW => by
                  have h1 := HC.out W hW (pos + 1) y (by rw [List.getElem?_cons_succ, List.getElem?_eq_getElem hpx, hy])
                  have e1 : ad.add (pos + 1) = ⟨ad.block, ad.off + (pos + 1), none⟩ := by simp [Addr.add]
                  rw [e1] at h1; exact h1
                have HCY := Aside0.mk hcy
                have hcy2 := hcy W2 HW2.out
                have hpn : (pos : Int) + 1 < (nL : Int) := by have h2 := HL1.out; omega
                have hp4 : (pos : Int) ≤ 3 := by have := HA.out; omega
                clear hW2 hm2 hbt hasc nek hmem hp hy hcy hpx hxl
                obtain ⟨c, hc⟩ : ∃ c, bt F1 pos = c := ⟨_, rfl⟩
                rw [hc] at hnx hlet hra
                clear hc
                rw [HKs.out] at hnx
                unfold readAll at hra
                by_cases h115 : c = 115
                · subst h115
                  rw [if_pos rfl] at hra
                  obtain ⟨⟨v, b⟩, hv, hra2⟩ := Option.bind_eq_some_iff.1 hra
                  have HV := Aside0.mk hv
                  have HRB := Aside0.mk hra2
                  clear hra hv hra2
                  have S5 : True := trivial
                  have S6 : True := trivial
                  cases b with
                  | false =>
                    have hqn : q = none := by have h1 : (if false = true then _ else some none) = some q := HRB.out; rw [if_neg Bool.false_ne_true] at h1; exact (Option.some.inj h1).symm
                    have hz := HQE.out
                    subst hqn
                    simp only [stepEnd, tupB, zeroO, Prod.mk.injEq] at hz
                    obtain ⟨x0, x1, x2, x3, x4, x5, x6, rfl⟩ := hz
                    have HCC := Aside0.mk (show #[.int .i64 0, .int .i64 0, .int .i64 0, .int .i64 0, .string ⟨#[]⟩, .int .i64 0, .int .i64 0] = cellsA RES by unfold cellsA; rw [← x0, ← x1, ← x2, ← x3, ← x4, ← x5, ← x6])
                    clear x0 x1 x2 x3 x4 x5 x6
                    go_wp2_with (first | (clear S5; go_at_call 57; refine (script_readSku.calls k y v false _ HV.out).mono ?_; rintro e w7 ⟨rfl, hb7⟩; have a0 := Aside0.mk (blk_below HG2.out hb7); have a1 := Aside0.mk (blk_below HZ2.out hb7); have a2 := Aside0.mk (below_step HW2.out hb7); have d4 : w7.cell? ⟨gp, 4, none⟩ = some (.string o.f4) := (by rw [Lib.cell_of_heap a0.out]; rfl); have f4 := blk_frozen a0.out 4; clear hb7) | (clear S6; refine st29at (g := gr) rfl rfl rfl rfl rfl (blk_far a1.out p5.out _) rfl rfl (by first | rfl | (simp [Value.oneCell'])) ?_; intro w8 h8 hk8 hb8; have z0 := Aside0.mk h8; have z1 := Aside0.mk (hb8 _ _ (below_set a2.out p4.out) n2.out); clear h8 hk8 hb8) | go_in)
                    exact bodyPost_ret (results_ct rfl _ _ gr 29 #[.int .i64 0, .int .i64 0, .int .i64 0, .int .i64 0, .string ⟨#[]⟩, .int .i64 0, .int .i64 0] (0, 0) _ rfl z0.out Tryd.underlying29 rfl (by kernel_rfl)) rfl ⟨by rw [← HCC.out]; rfl, z1.out⟩
                  | true =>
                    have hrb := HRB.out
                    rw [if_pos rfl] at hrb
                    have HRC := Aside0.mk hrb
                    clear hrb
                    have hset : ∀ W : World, W.heap[gp]? = some (.cells (cellsA o) 29 (0, 0)) → (W.setCell ⟨gp, 4, none⟩ (.string v)).heap[gp]? = some (.cells (cellsA { o with f4 := v }) 29 (0, 0)) := fun W hW => by rw [blk_set hW]; rfl
                    have HSET := Aside0.mk hset
                    clear hset
                    go_wp2_with (first | (clear S5; go_at_call 57; refine (script_readSku.calls k y v true _ HV.out).mono ?_; rintro e w7 ⟨rfl, hb7⟩; have a0 := Aside0.mk (blk_below HG2.out hb7); have a1 := Aside0.mk (blk_below HZ2.out hb7); have a2 := Aside0.mk (below_step HW2.out hb7); have a3 := Aside0.mk (blk_below HI2.out hb7); have d4 : w7.cell? ⟨gp, 4, none⟩ = some (.string o.f4) := (by rw [Lib.cell_of_heap a0.out]; rfl); have f4 := blk_frozen a0.out 4; clear hb7) | go_in)
                    go_roundw
                    case rel => exact ⟨pos + 1, { o with f4 := v }, ⟨HHP.out⟩, ⟨(Below.heap_setCell _ _ _ _ (fun e => HN1.out e.symm)).trans a3.out⟩, ⟨HSET.out _ a0.out⟩, HRC, ⟨blk_far a1.out p5.out _⟩, ⟨below_set a2.out p4.out⟩⟩
                    case measure =>
                      have h1 := HM2.out
                      simp only [World.iterPos, HI2.out] at h1
                      simp only [World.iterPos, (Below.heap_setCell _ ⟨gp, 4, none⟩ (.string v) K (fun e => HN1.out e.symm)).trans a3.out]
                      exact h1
                · rw [if_neg h115] at hra
                  obtain ⟨⟨v, b⟩, hv, hra2⟩ := Option.bind_eq_some_iff.1 hra
                  have HV := Aside0.mk hv
                  have HRB := Aside0.mk hra2
                  have hcc : c = 114 ∨ c = 99 ∨ c = 116 ∨ c = 113 ∨ c = 110 ∨ c = 107 := by omega
                  have hset : ∀ W : World, W.heap[gp]? = some (.cells (cellsA o) 29 (0, 0)) → (W.setCell ⟨gp, fldOff c, none⟩ (.int .i64 v)).heap[gp]? = some (.cells (cellsA (setF o c v)) 29 (0, 0)) := fun W hW => by
                    rw [blk_set hW]
                    rcases hcc with rfl | rfl | rfl | rfl | rfl | rfl <;> rfl
                  have hcl : ∃ u, ∀ W : World, W.heap[gp]? = some (.cells (cellsA o) 29 (0, 0)) → W.cell? ⟨gp, fldOff c, none⟩ = some u := by
                    rcases hcc with rfl | rfl | rfl | rfl | rfl | rfl <;> exact ⟨_, fun W hW => by rw [Lib.cell_of_heap hW]; rfl⟩
                  obtain ⟨u, hcl⟩ := hcl
                  have hfld : ∀ W, Calls Tryd.prog 43 #[.pointer (some ⟨gp, 0, none⟩), .int .i32 c] W fun e w' => e = .returned (.pointer (some ⟨gp, fldOff c, none⟩)) ∧ w' = W := fun W => script_field.calls gp c W hcc
                  obtain ⟨off, hoff⟩ : ∃ off, fldOff c = off := ⟨_, rfl⟩
                  rw [hoff] at hset hcl hfld
                  have HSET := Aside0.mk hset
                  have HCL := Aside0.mk hcl
                  have HFL := Aside0.mk hfld
                  have hcb : (c == 115) = false := beq_eq_false_iff_ne.mpr h115
                  clear hra hv hra2 hset hcl hfld hoff hcc h115 hlet
                  cases b with
                  | false =>
                    have hqn : q = none := by have h1 : (if false = true then _ else some none) = some q := HRB.out; rw [if_neg Bool.false_ne_true] at h1; exact (Option.some.inj h1).symm
                    have hz := HQE.out
                    subst hqn
                    simp only [stepEnd, tupB, zeroO, Prod.mk.injEq] at hz
                    obtain ⟨x0, x1, x2, x3, x4, x5, x6, rfl⟩ := hz
                    have HCC := Aside0.mk (show #[.int .i64 0, .int .i64 0, .int .i64 0, .int .i64 0, .string ⟨#[]⟩, .int .i64 0, .int .i64 0] = cellsA RES by unfold cellsA; rw [← x0, ← x1, ← x2, ← x3, ← x4, ← x5, ← x6])
                    clear x0 x1 x2 x3 x4 x5 x6
                    have hw1 : wrap64 ((pos : Int) + 1) = (pos : Int) + 1 := w64 (by omega) (by omega)
                    have hw2 : IntKind.i64.wrap ((pos : Int) + 1) = (pos : Int) + 1 := (i64_w _).trans hw1
                    have hpb : (0 ≤ (pos : Int) + 1) = True := eq_true (by omega)
                    have hpn2 : ((pos : Int) + 1 < (nL : Int)) = True := eq_true hpn
                    have htn : ((pos : Int) + 1).toNat = pos + 1 := by omega
                    go_wp2
                    go_region_with (first | (refine (HFL.out _).mono ?_; rintro e w6 ⟨rfl, hw6⟩; obtain rfl := hw6.symm) | (refine (script_readNumber.calls y v false W2.drew (tab_keep hTab (below_drew HW2.out)) (tabE_keep hTabE (below_drew HW2.out)) HV.out).mono ?_; rintro e w7 ⟨rfl, hb7⟩; have a0 := Aside0.mk (blk_below (w := W2.drew) HG2.out hb7); have a1 := Aside0.mk (blk_below (w := W2.drew) HZ2.out hb7); have a2 := Aside0.mk (below_step (below_drew HW2.out) hb7); have d4 := HCL.out w7 a0.out; have f4 := blk_frozen a0.out off; clear hb7))
                    all_goals
                      clear hw1 hw2 hpb hpn2 htn hpn
                      have S7 : True := trivial
                      go_wp2_with (first | (clear S7; refine st29at (g := gr) rfl rfl rfl rfl rfl (by first | exact blk_far a1.out p5.out _ | exact blk_drew (blk_far a1.out p5.out _)) rfl rfl (by first | rfl | (simp [Value.oneCell'])) ?_; intro w8 h8 hk8 hb8; have z0 := Aside0.mk h8; have z1 := Aside0.mk (hb8 _ _ (by first | exact below_set a2.out p4.out | exact below_drew (below_set a2.out p4.out)) n2.out); clear h8 hk8 hb8) | go_in)
                      exact bodyPost_ret (results_ct rfl _ _ gr 29 #[.int .i64 0, .int .i64 0, .int .i64 0, .int .i64 0, .string ⟨#[]⟩, .int .i64 0, .int .i64 0] (0, 0) _ rfl z0.out Tryd.underlying29 rfl (by kernel_rfl)) rfl ⟨by rw [← HCC.out]; rfl, z1.out⟩
                  | true =>
                    have hrb := HRB.out
                    rw [if_pos rfl] at hrb
                    have HRC := Aside0.mk hrb
                    clear hrb
                    have hw1 : wrap64 ((pos : Int) + 1) = (pos : Int) + 1 := w64 (by omega) (by omega)
                    have hw2 : IntKind.i64.wrap ((pos : Int) + 1) = (pos : Int) + 1 := (i64_w _).trans hw1
                    have hpb : (0 ≤ (pos : Int) + 1) = True := eq_true (by omega)
                    have hpn2 : ((pos : Int) + 1 < (nL : Int)) = True := eq_true hpn
                    have htn : ((pos : Int) + 1).toNat = pos + 1 := by omega
                    go_wp2
                    go_region_with (first | (refine (HFL.out _).mono ?_; rintro e w6 ⟨rfl, hw6⟩; obtain rfl := hw6.symm) | (refine (script_readNumber.calls y v true W2.drew (tab_keep hTab (below_drew HW2.out)) (tabE_keep hTabE (below_drew HW2.out)) HV.out).mono ?_; rintro e w7 ⟨rfl, hb7⟩; have a0 := Aside0.mk (blk_below (w := W2.drew) HG2.out hb7); have a1 := Aside0.mk (blk_below (w := W2.drew) HZ2.out hb7); have a2 := Aside0.mk (below_step (below_drew HW2.out) hb7); have a3 := Aside0.mk (blk_below (w := W2.drew) HI2.out hb7); have d4 := HCL.out w7 a0.out; have f4 := blk_frozen a0.out off; clear hb7))
                    all_goals
                      clear hw1 hw2 hpb hpn2 htn hpn
                      go_wp2
                      go_roundw
                      case rel =>
                        first
                          | exact ⟨pos + 1, setF o c v, ⟨HHP.out⟩, ⟨(Below.heap_setCell _ _ _ _ (fun e => HN1.out e.symm)).trans a3.out⟩, ⟨HSET.out _ a0.out⟩, HRC, ⟨blk_far a1.out p5.out _⟩, ⟨below_set a2.out p4.out⟩⟩
                          | exact ⟨pos + 1, setF o c v, ⟨HHP.out⟩, ⟨(Below.heap_setCell _ _ _ _ (fun e => HN1.out e.symm)).trans a3.out⟩, ⟨HSET.out _ a0.out⟩, HRC, ⟨blk_far a1.out p5.out _⟩, ⟨below_drew (below_set a2.out p4.out)⟩⟩
                      case measure =>
                        have h1 := HM2.out
                        simp only [World.iterPos, HI2.out] at h1
                        simp only [World.iterPos, (Below.heap_setCell _ ⟨gp, off, none⟩ (.int .i64 v) K (fun e => HN1.out e.symm)).trans a3.out]
                        exact h1
              · have hnx : ∀ ty, (Instr.next (.pointer (some ⟨K, 0, none⟩)) true ty).run Tryd.prog wr = _ := fun ty => Lib.run_next_end_at wr K F1 pos ty HI.out hp
                rw [HKs.out] at hnx
                have hra := HRA.out
                rw [List.drop_eq_nil_of_le (by rw [bytesOf_length]; omega)] at hra
                have hqo : q = some o := (Option.some.inj hra).symm
                have hz := HQE.out
                rw [hqo] at hz
                have HZE := Aside0.mk hz
                have d0 : wr.cell? ⟨gp, 0, none⟩ = some (.int .i64 o.f0) := by rw [Lib.cell_of_heap HG.out]; rfl
                have d1 : wr.cell? ⟨gp, 1, none⟩ = some (.int .i64 o.f1) := by rw [Lib.cell_of_heap HG.out]; rfl
                have d2 : wr.cell? ⟨gp, 2, none⟩ = some (.int .i64 o.f2) := by rw [Lib.cell_of_heap HG.out]; rfl
                have d3 : wr.cell? ⟨gp, 3, none⟩ = some (.int .i64 o.f3) := by rw [Lib.cell_of_heap HG.out]; rfl
                have d4 : wr.cell? ⟨gp, 4, none⟩ = some (.string o.f4) := by rw [Lib.cell_of_heap HG.out]; rfl
                have d5 : wr.cell? ⟨gp, 5, none⟩ = some (.int .i64 o.f5) := by rw [Lib.cell_of_heap HG.out]; rfl
                have d6 : wr.cell? ⟨gp, 6, none⟩ = some (.int .i64 o.f6) := by rw [Lib.cell_of_heap HG.out]; rfl
                have HKN := Aside0.mk (known_eq kv)
                have HKO := Aside0.mk (known_eq o.f0)
                clear hra hqo hz hp
                have good : (knownI kv = true ∨ knownI o.f0 = false) → tupB o true = tupB RES r8 := fun h1 => (stepEnd_good h1).symm.trans HZE.out
                have bad : knownI kv = false → knownI o.f0 = true → tupB zeroO false = tupB RES r8 := fun h1 h3 => (stepEnd_bad h1 h3).symm.trans HZE.out
                have GOOD := Aside0.mk good
                have BAD := Aside0.mk bad
                clear good bad
                obtain ⟨kk, hkk⟩ : ∃ kk, knownI kv = kk := ⟨_, rfl⟩
                obtain ⟨ko, hko⟩ : ∃ ko, knownI o.f0 = ko := ⟨_, rfl⟩
                rw [hkk] at HKN GOOD BAD
                rw [hko] at HKO GOOD BAD
                clear hkk hko
                have S5 : True := trivial
                have S6 : True := trivial
                have S7 : True := trivial
                cases kk with
                | true =>
                  have hz := GOOD.out (.inl rfl)
                  simp only [tupB, Prod.mk.injEq] at hz
                  obtain ⟨x0, x1, x2, x3, x4, x5, x6, rfl⟩ := hz
                  have HCC := Aside0.mk (show cellsA o = cellsA RES by unfold cellsA; rw [← x0, ← x1, ← x2, ← x3, ← x4, ← x5, ← x6])
                  clear x0 x1 x2 x3 x4 x5 x6
                  go_wp2_with (first | (clear S5; go_at_call 59; refine (script_known.calls kv true _ HKN.out).mono ?_; rintro e w' ⟨rfl, ⟨nd, rfl⟩⟩) | (clear S7; refine st29at (g := gr) rfl rfl rfl rfl rfl (blk_drewN HZ.out _) rfl rfl (by first | rfl | (simp [Value.oneCell'])) ?_; intro w8 h8 hk8 hb8; have z0 := Aside0.mk h8; have z1 := Aside0.mk (hb8 _ _ (pw_below_drewN HW.out _) n2.out); clear h8 hk8 hb8) | go_in)
                  exact bodyPost_ret (results_ct rfl _ _ gr 29 (cellsA o) (0, 0) _ rfl z0.out Tryd.underlying29 rfl (by kernel_rfl)) rfl ⟨by rw [← HCC.out]; rfl, z1.out⟩
                | false =>
                  cases ko with
                  | false =>
                    have hz := GOOD.out (.inr rfl)
                    simp only [tupB, Prod.mk.injEq] at hz
                    obtain ⟨x0, x1, x2, x3, x4, x5, x6, rfl⟩ := hz
                    have HCC := Aside0.mk (show cellsA o = cellsA RES by unfold cellsA; rw [← x0, ← x1, ← x2, ← x3, ← x4, ← x5, ← x6])
                    clear x0 x1 x2 x3 x4 x5 x6
                    go_wp2_with (first | (clear S5; go_at_call 59; refine (script_known.calls kv false _ HKN.out).mono ?_; rintro e w7 ⟨rfl, hdr⟩; have a0 := Aside0.mk (dr_heap hdr _ HG.out); have a1 := Aside0.mk (dr_heap hdr _ HZ.out); have a2 := Aside0.mk (dr_below hdr HW.out); have e0 : w7.cell? ⟨gp, 0, none⟩ = some (.int .i64 o.f0) := (by rw [Lib.cell_of_heap a0.out]; rfl); clear hdr) | (clear S6; go_at_call 59; refine (script_known.calls o.f0 false _ HKO.out).mono ?_; rintro e w9 ⟨rfl, hdr⟩; have b0 := Aside0.mk (dr_heap hdr _ a0.out); have b1 := Aside0.mk (dr_heap hdr _ a1.out); have b2 := Aside0.mk (dr_below hdr a2.out); have e0 : w9.cell? ⟨gp, 0, none⟩ = some (.int .i64 o.f0) := (by rw [Lib.cell_of_heap b0.out]; rfl); have e1 : w9.cell? ⟨gp, 1, none⟩ = some (.int .i64 o.f1) := (by rw [Lib.cell_of_heap b0.out]; rfl); have e2 : w9.cell? ⟨gp, 2, none⟩ = some (.int .i64 o.f2) := (by rw [Lib.cell_of_heap b0.out]; rfl); have e3 : w9.cell? ⟨gp, 3, none⟩ = some (.int .i64 o.f3) := (by rw [Lib.cell_of_heap b0.out]; rfl); have e4 : w9.cell? ⟨gp, 4, none⟩ = some (.string o.f4) := (by rw [Lib.cell_of_heap b0.out]; rfl); have e5 : w9.cell? ⟨gp, 5, none⟩ = some (.int .i64 o.f5) := (by rw [Lib.cell_of_heap b0.out]; rfl); have e6 : w9.cell? ⟨gp, 6, none⟩ = some (.int .i64 o.f6) := (by rw [Lib.cell_of_heap b0.out]; rfl); clear hdr) | (clear S7; refine st29at (g := gr) rfl rfl rfl rfl rfl b1.out rfl rfl (by first | rfl | (simp [Value.oneCell'])) ?_; intro w8 h8 hk8 hb8; have z0 := Aside0.mk h8; have z1 := Aside0.mk (hb8 _ _ b2.out n2.out); clear h8 hk8 hb8) | go_in)
                    exact bodyPost_ret (results_ct rfl _ _ gr 29 (cellsA o) (0, 0) _ rfl z0.out Tryd.underlying29 rfl (by kernel_rfl)) rfl ⟨by rw [← HCC.out]; rfl, z1.out⟩
                  | true =>
                    have hz := BAD.out rfl rfl
                    simp only [tupB, zeroO, Prod.mk.injEq] at hz
                    obtain ⟨x0, x1, x2, x3, x4, x5, x6, rfl⟩ := hz
                    have HCC := Aside0.mk (show #[.int .i64 0, .int .i64 0, .int .i64 0, .int .i64 0, .string ⟨#[]⟩, .int .i64 0, .int .i64 0] = cellsA RES by unfold cellsA; rw [← x0, ← x1, ← x2, ← x3, ← x4, ← x5, ← x6])
                    clear x0 x1 x2 x3 x4 x5 x6
                    go_wp2_with (first | (clear S5; go_at_call 59; refine (script_known.calls kv false _ HKN.out).mono ?_; rintro e w7 ⟨rfl, hdr⟩; have a0 := Aside0.mk (dr_heap hdr _ HG.out); have a1 := Aside0.mk (dr_heap hdr _ HZ.out); have a2 := Aside0.mk (dr_below hdr HW.out); have e0 : w7.cell? ⟨gp, 0, none⟩ = some (.int .i64 o.f0) := (by rw [Lib.cell_of_heap a0.out]; rfl); clear hdr) | (clear S6; go_at_call 59; refine (script_known.calls o.f0 true _ HKO.out).mono ?_; rintro e w9 ⟨rfl, hdr⟩; have b0 := Aside0.mk (dr_heap hdr _ a0.out); have b1 := Aside0.mk (dr_heap hdr _ a1.out); have b2 := Aside0.mk (dr_below hdr a2.out); have e0 : w9.cell? ⟨gp, 0, none⟩ = some (.int .i64 o.f0) := (by rw [Lib.cell_of_heap b0.out]; rfl); have e1 : w9.cell? ⟨gp, 1, none⟩ = some (.int .i64 o.f1) := (by rw [Lib.cell_of_heap b0.out]; rfl); have e2 : w9.cell? ⟨gp, 2, none⟩ = some (.int .i64 o.f2) := (by rw [Lib.cell_of_heap b0.out]; rfl); have e3 : w9.cell? ⟨gp, 3, none⟩ = some (.int .i64 o.f3) := (by rw [Lib.cell_of_heap b0.out]; rfl); have e4 : w9.cell? ⟨gp, 4, none⟩ = some (.string o.f4) := (by rw [Lib.cell_of_heap b0.out]; rfl); have e5 : w9.cell? ⟨gp, 5, none⟩ = some (.int .i64 o.f5) := (by rw [Lib.cell_of_heap b0.out]; rfl); have e6 : w9.cell? ⟨gp, 6, none⟩ = some (.int .i64 o.f6) := (by rw [Lib.cell_of_heap b0.out]; rfl); clear hdr) | (clear S7; refine st29at (g := gr) rfl rfl rfl rfl rfl b1.out rfl rfl (by first | rfl | (simp [Value.oneCell'])) ?_; intro w8 h8 hk8 hb8; have z0 := Aside0.mk h8; have z1 := Aside0.mk (hb8 _ _ b2.out n2.out); clear h8 hk8 hb8) | go_in)
                    exact bodyPost_ret (results_ct rfl _ _ gr 29 #[.int .i64 0, .int .i64 0, .int .i64 0, .int .i64 0, .string ⟨#[]⟩, .int .i64 0, .int .i64 0] (0, 0) _ rfl z0.out Tryd.underlying29 rfl (by kernel_rfl)) rfl ⟨by rw [← HCC.out]; rfl, z1.out⟩
          · have hF4 := HA.out
            have HX := HH.out
            rw [if_pos hb, if_neg (by have := HN0.out; simp only [List.length_cons] at this; omega)] at HX
            have hb3 : (!(W1.toList == x.toList)) = false := by rw [hb]; rfl
            have q1 : ((nL : Int) == (F1.size : Int) + 1) = false := beq_eq_false_iff_ne.mpr (by omega)
            have q2 : ((nL : Int) != (F1.size : Int) + 1) = true := bne_iff_ne.mpr (by omega)
            have hX2 := Option.some.inj HX
            simp only [tupB, zeroO, Prod.mk.injEq] at hX2
            obtain ⟨x0, x1, x2, x3, x4, x5, x6, rfl⟩ := hX2
            have hC : #[.int .i64 0, .int .i64 0, .int .i64 0, .int .i64 0, .string ⟨#[]⟩, .int .i64 0, .int .i64 0] = cellsA RES := by unfold cellsA; rw [← x0, ← x1, ← x2, ← x3, ← x4, ← x5, ← x6]
            have HCC := Aside0.mk hC
            clear HX x0 x1 x2 x3 x4 x5 x6 hC
            go_quiet (fail)
            go_wp2_with (first | (refine st29at (g := gr) rfl rfl rfl rfl rfl (blk_drewN m2.out _) rfl rfl (by first | rfl | (simp [Value.oneCell'])) ?_; intro w5 h5 _ hb5; have p0 := Aside0.mk h5; have p1 := Aside0.mk (hb5 _ _ (pw_below_drewN m3.out _) n2.out); clear h5 hb5) | go_in)
            exact bodyPost_ret (results_ct rfl _ _ gr 29 #[.int .i64 0, .int .i64 0, .int .i64 0, .int .i64 0, .string ⟨#[]⟩, .int .i64 0, .int .i64 0] (0, 0) _ rfl p0.out Tryd.underlying29 rfl (by kernel_rfl)) rfl ⟨by rw [← HCC.out]; rfl, p1.out⟩
        · have HX := HH.out
          rw [if_neg hb] at HX
          have hb4 : (W1.toList == x.toList) = false := by simpa using hb
          have hb3 : (!(W1.toList == x.toList)) = true := by rw [hb4]; rfl
          clear hb hb4
          have hX2 := Option.some.inj HX
          simp only [tupB, zeroO, Prod.mk.injEq] at hX2
          obtain ⟨x0, x1, x2, x3, x4, x5, x6, rfl⟩ := hX2
          have hC : #[.int .i64 0, .int .i64 0, .int .i64 0, .int .i64 0, .string ⟨#[]⟩, .int .i64 0, .int .i64 0] = cellsA RES := by unfold cellsA; rw [← x0, ← x1, ← x2, ← x3, ← x4, ← x5, ← x6]
          have HCC := Aside0.mk hC
          clear HX x0 x1 x2 x3 x4 x5 x6 hC
          go_quiet (fail)
          go_wp2_with (first | (refine st29at (g := gr) rfl rfl rfl rfl rfl (blk_drewN m2.out _) rfl rfl (by first | rfl | (simp [Value.oneCell'])) ?_; intro w5 h5 _ hb5; have p0 := Aside0.mk h5; have p1 := Aside0.mk (hb5 _ _ (pw_below_drewN m3.out _) n2.out); clear h5 hb5) | go_in)
          exact bodyPost_ret (results_ct rfl _ _ gr 29 #[.int .i64 0, .int .i64 0, .int .i64 0, .int .i64 0, .string ⟨#[]⟩, .int .i64 0, .int .i64 0] (0, 0) _ rfl p0.out Tryd.underlying29 rfl (by kernel_rfl)) rfl ⟨by rw [← HCC.out]; rfl, p1.out⟩
end Go.Proofs.YtlmdhpfggobogaaDoor.G

namespace Go.Proofs.YtlmdhpfggobogaaDoor.G
open Go.RowKit Go.Proofs.YtlmdhpfggobogaaDoorW.PrintWords Go.Proofs.YtlmdhpfggobogaaDoorW.PrintLast Go.Proofs.YtlmdhpfggobogaaDoorW.PrintMore
set_option linter.unusedVariables false
def storeB : ByteArray := ⟨#[115, 116, 111, 114, 101]⟩
def cellsH (h : S23) : Array Value := #[.int .i64 h.f0, .int .i64 h.f1, .int .i64 h.f2, .int .i64 h.f3, .int .i64 h.f4, .int .i64 h.f5]
def zeroH : S23 := ⟨0, 0, 0, 0, 0, 0⟩
def setH (h : S23) (i : Nat) (v : Int) : S23 := if i = 0 then { h with f0 := v } else if i = 1 then { h with f1 := v } else if i = 2 then { h with f2 := v } else if i = 3 then { h with f3 := v } else if i = 4 then { h with f4 := v } else { h with f5 := v }
def readH : Nat → List ByteArray → S23 → Option (Option S23)
  | _, [], h => some (some h)
  | i, x :: xs, h => (script_readNumber.f x).bind fun r => if r.2 = true then readH (i + 1) xs (setH h i r.1) else some none
def outH : Option S23 → Int × Int × Int × Int × Int × Int × Bool
  | some h => (h.f0, h.f1, h.f2, h.f3, h.f4, h.f5, true)
  | none => (0, 0, 0, 0, 0, 0, false)
def headC (x : ByteArray) (xs : List ByteArray) : Option (Int × Int × Int × Int × Int × Int × Bool) :=
  if (x :: xs).length < 4611686018427387904 then (if (x.toList == storeB.toList) = true then (if xs.length = 6 then (readH 0 xs zeroH).map outH else some (outH none)) else some (outH none)) else none
def script_head.f (l : List ByteArray) : Option (Int × Int × Int × Int × Int × Int × Bool) :=
  match l with
  | [] => none
  | x :: xs => headC x xs
theorem st23at {ops : Array Oper} {rest : List Oper} {o : Oper} {a : Act} {Q : Exit → Act → World → Prop} {w : World} {g : Nat} {O C : Array Value} {x y : Operand} (hgd : o.guard = none)
  (ho : o.op = .store 23 x y) (hd : o.dst = none) (hx : a.eval x = .pointer (some ⟨g, 0, none⟩)) (hy : a.eval y = .agg C) (hg : w.heap[g]? = some (.cells O 23 (0, 0)))
  (hO : O.size = 6) (hC : C.size = 6) (h1 : C.all (·.oneCell') = true) (h : ∀ w2, w2.heap[g]? = some (.cells C 23 (0, 0)) → (∀ k o, w.heap[k]? = some o → k ≠ g → w2.heap[k]? = some o) → (∀ B w0, Below B w0 w → B ≤ g → Below B w0 w2) → wpList Tryd.prog ops Q rest a w2) :
  wpList Tryd.prog ops Q (o :: rest) a w :=
 wpList_store_rowTo hgd 23 x y ho hd g C hx hy 23 O hg (by rw [hC]; kernel_rfl) (by omega) h1 (h _ (setRow_heap w g O C 23 (0, 0) hg) (fun k o hk hne => (setRow_other w g k C hne).trans hk) (fun B w0 hb hB => below_setRow hb hB C))
theorem store_word : storeB.toList = [115, 116, 111, 114, 101] := by decide +kernel
theorem readH_next (i : Nat) (xs : List ByteArray) (h : S23) (q : Option S23) (hi : i < xs.length) (hq : readH i (xs.drop i) h = some q) : ∃ v b, script_readNumber.f xs[i] = some (v, b) ∧ (if b = true then readH (i + 1) (xs.drop (i + 1)) (setH h i v) else some none) = some q := by
  rw [List.drop_eq_getElem_cons hi] at hq
  unfold readH at hq
  obtain ⟨⟨v, b⟩, hv, hr⟩ := Option.bind_eq_some_iff.1 hq
  exact ⟨v, b, hv, hr⟩
theorem cellsH_at (h : S23) (i : Nat) (hi : i < 6) : ∃ u, ∀ (W : World) (gh : Nat), W.heap[gh]? = some (.cells (cellsH h) 23 (0, 0)) → W.cell? ⟨gh, i, none⟩ = some u := by
  rcases i with _ | _ | _ | _ | _ | _ | i <;> first | exact ⟨_, fun W gh hW => by rw [Lib.cell_of_heap hW]; rfl⟩ | omega
theorem cellsH_set (h : S23) (i : Nat) (v : Int) (hi : i < 6) (W : World) (gh : Nat) (hW : W.heap[gh]? = some (.cells (cellsH h) 23 (0, 0))) : (W.setCell ⟨gh, i, none⟩ (.int .i64 v)).heap[gh]? = some (.cells (cellsH (setH h i v)) 23 (0, 0)) := by
  rw [blk_set hW]
  rcases i with _ | _ | _ | _ | _ | _ | i <;> first | rfl | omega
structure Hold (p : Prop) : Prop where
  out : p
set_option maxHeartbeats 4000000 in
set_option maxRecDepth 100000 in
theorem script_head.calls (A0 : Option Addr) (c0 : Nat) (l0 : List ByteArray) (r1 r2 r3 r4 r5 r6 : Int) (r7 : Bool) (w : World) (hTab : Aside0 (Tab w)) (hTabE : Aside0 (TabE w)) (hr0 : Kd.C Kd.string w A0 l0.length l0) (hc0 : l0.length ≤ c0)
    (h : script_head.f l0 = some (r1, r2, r3, r4, r5, r6, r7)) :
    Calls Tryd.prog 48 #[.slice A0 l0.length c0] w fun e w' => e = .returned (.tuple #[.agg #[.int .i64 r1, .int .i64 r2, .int .i64 r3, .int .i64 r4, .int .i64 r5, .int .i64 r6], .bool r7]) ∧ Below w.heap.size w w' := by
  cases l0 with
  | nil => cases h
  | cons x xs =>
    have h : headC x xs = some (r1, r2, r3, r4, r5, r6, r7) := h
    unfold headC at h
    by_cases hlen : (x :: xs).length < 4611686018427387904
    case neg => rw [if_neg hlen] at h; cases h
    rw [if_pos hlen, store_word] at h
    have H := Aside0.mk h
    clear h
    obtain ⟨ad, eA, _⟩ := Kd.at_string hr0 0 (by omega) (by simp only [List.length_cons]; omega)
    subst eA
    have HC := Aside0.mk (fun W (hb : Below w.heap.size w W) => cells_of_string (Kd.C_below hr0 hb))
    clear hr0
    obtain ⟨nL, hn0⟩ : ∃ nL, (x :: xs).length = nL := ⟨_, rfl⟩
    have HN0 := Aside0.mk hn0
    have hpos : 0 < nL := by rw [← hn0]; simp
    rw [hn0] at hlen hc0
    rw [hn0]
    have HLN := Aside0.mk (show 0 < nL ∧ nL < 4611686018427387904 ∧ nL ≤ c0 from ⟨hpos, hlen, hc0⟩)
    clear hn0 hlen hc0
    have S1 : True := trivial
    have S2 : True := trivial
    have S3 : True := trivial
    by_cases hx : x.toList = [115, 116, 111, 114, 101]
    · have hxb : (x.toList == [115, 116, 111, 114, 101]) = true := beq_iff_eq.mpr hx
      have hX := H.out
      rw [if_pos hxb] at hX
      by_cases hl : nL = 7
      · rw [if_pos (by have := HN0.out; simp only [List.length_cons] at this; omega)] at hX
        obtain ⟨q, hq, hqe⟩ := Option.map_eq_some_iff.1 hX
        have HQ := Aside0.mk hq
        have HQE := Aside0.mk hqe
        have HL := Aside0.mk hl
        have hn : ((nL : Int) != 7) = false := bne_eq_false_iff_eq.mpr (by omega)
        clear hX hq hqe hl hxb H
        go_enter Tryd.func48, Tryd.ntmps48
        go_wp2_with (first | (clear S1; (with_reducible refine gate_dst (N := 2) rfl ?_); refine box_event ?hg (N := 2) ?hd (cs := #[.int .i64 0, .int .i64 0, .int .i64 0, .int .i64 0, .int .i64 0, .int .i64 0]) (t := 23) ?hr ?_; (case hd => rfl); (case hg => rfl); (case hr => first | (go_simp; done) | (go_simp; rfl)); intro gr hgr w1 hbox hb1; have n0 := Aside0.mk hbox; have n1 := Aside0.mk hb1; have n2 := Aside0.mk (show w.heap.size ≤ gr by rw [hgr]; exact Nat.le_refl _); clear hbox hb1 hgr) | (clear S2; (with_reducible refine gate_dst (N := 4) rfl ?_); refine box_event ?hg (N := 4) ?hd (cs := #[.int .i64 0, .int .i64 0, .int .i64 0, .int .i64 0, .int .i64 0, .int .i64 0]) (t := 23) ?hr ?_; (case hd => rfl); (case hg => rfl); (case hr => first | (go_simp; done) | (go_simp; rfl)); intro gh hgh w2 hbox hb2; have n3 := Aside0.mk hbox; have n4 := Aside0.mk (below_step n1.out hb2); have n5 := Aside0.mk (blk_below n0.out hb2); have n6 := Aside0.mk (show w.heap.size ≤ gh by rw [hgh]; exact n1.out.size); have n7 := Aside0.mk (show gr ≠ gh by rw [hgh]; exact Nat.ne_of_lt (blk_lt n0.out)); have hcell : w2.cell? ad = some (.string x) := HC.out w2 n4.out 0 x rfl;  clear hbox hb2 hgh) | (clear S3; go_at_call 30; refine (script_heads.calls gh _).mono ?_; rintro e w4 ⟨g, rfl, hg1, hg2, hb4⟩; have p0 := Aside0.mk hg2; have p1 := Aside0.mk (below_step n4.out hb4); have p2 := Aside0.mk (blk_below n3.out hb4); have p3 := Aside0.mk (blk_below n5.out hb4); have p4 := Aside0.mk (show gh ≠ g from Nat.ne_of_lt (Nat.lt_of_lt_of_le (blk_lt n3.out) hg1)); have p5 := Aside0.mk (show gr ≠ g from Nat.ne_of_lt (Nat.lt_of_lt_of_le (blk_lt n5.out) hg1)); clear hg1 hg2 hb4) | go_in)
        go_loopw [20] (fun v20 wr => ∃ (i : Nat) (hh : S23), v20 = .int .i64 i ∧ i ≤ 6 ∧ Aside0 (readH i (xs.drop i) hh = some q) ∧ Aside0 (wr.heap[gh]? = some (.cells (cellsH hh) 23 (0, 0))) ∧ Aside0 (wr.heap[g]? = some (.cells (headRow gh) 61 (0, 0))) ∧ Aside0 (wr.heap[gr]? = some (.cells #[.int .i64 0, .int .i64 0, .int .i64 0, .int .i64 0, .int .i64 0, .int .i64 0] 23 (0, 0))) ∧ Aside0 (Below w.heap.size w wr)) (fun v20 _ => 6 - toN v20)
        case atStart => exact ⟨0, zeroH, rfl, by omega, HQ, p2, p0, p3, p1⟩
        case round =>
          obtain ⟨i, hh, rfl, hi, HR, RH, RG, RZ, RW⟩ := hrel
          clear HQ n0 n1 n3 n4 n5 p0 p1 p2 p3
          have S4 : True := trivial
          by_cases h6 : i < 6
          · have hxl : xs.length = 6 := by have h1 := HN0.out; have h2 := HL.out; simp only [List.length_cons] at h1; omega
            have g1 : wr.cell? ⟨g, i, none⟩ = some (.pointer (some ⟨gh, i, none⟩)) := by rw [Lib.cell_of_heap RG.out]; exact head_cell gh i h6
            obtain ⟨v, b, hv, hrb⟩ := readH_next i xs hh q (by omega) HR.out
            obtain ⟨y, hy⟩ : ∃ y, xs[i] = y := ⟨_, rfl⟩
            rw [hy] at hv
            have hcy : ∀ W, Below w.heap.size w W → W.cell? ⟨ad.block, ad.off + (i + 1), none⟩ = some (.string y) := fun W hW => by
              have h1 := HC.out W hW (i + 1) y (by rw [List.getElem?_cons_succ, List.getElem?_eq_getElem (by omega), hy])
              have e1 : ad.add (i + 1) = ⟨ad.block, ad.off + (i + 1), none⟩ := by simp [Addr.add]
              rw [e1] at h1; exact h1
            have hcy2 := hcy wr RW.out
            obtain ⟨u, hcl⟩ := cellsH_at hh i h6
            have HCL := Aside0.mk (fun W => hcl W gh)
            have HSET := Aside0.mk (fun W => cellsH_set hh i v h6 W gh)
            have HV := Aside0.mk hv
            have HRB := Aside0.mk hrb
            have hw := wrap_succ i (by omega)
            have HW := Aside0.mk hw
            have H6 := Aside0.mk h6
            have hw1 : wrap64 ((i : Int) + 1) = (i : Int) + 1 := w64 (by omega) (by omega)
            have hw2 : IntKind.i64.wrap ((i : Int) + 1) = (i : Int) + 1 := (i64_w _).trans hw1
            have hpb : (0 ≤ (i : Int) + 1) = True := eq_true (by omega)
            have hpn2 : ((i : Int) + 1 < (nL : Int)) = True := eq_true (by have h2 := HL.out; omega)
            have htn : ((i : Int) + 1).toNat = i + 1 := by omega
            clear hy hcy hcl hv hrb hxl hw
            cases b with
            | false =>
              have hqn : q = none := by have h1 := HRB.out; rw [if_neg Bool.false_ne_true] at h1; exact (Option.some.inj h1).symm
              have hz := HQE.out
              subst hqn
              simp only [outH, Prod.mk.injEq] at hz
              obtain ⟨x0, x1, x2, x3, x4, x5, rfl⟩ := hz
              subst x0; subst x1; subst x2; subst x3; subst x4; subst x5
              have S5 : True := trivial
              go_wp2_with (first | (clear S4; go_at_call 58; refine (script_readNumber.calls y v false _ (tab_keep hTab RW.out) (tabE_keep hTabE RW.out) HV.out).mono ?_; rintro e w7 ⟨rfl, hb7⟩; have a0 := Aside0.mk (blk_below RH.out hb7); have a1 := Aside0.mk (blk_below RZ.out hb7); have a2 := Aside0.mk (below_step RW.out hb7); have a3 := Aside0.mk (blk_below RG.out hb7); have d4 := HCL.out w7 a0.out; have f4 := blk_frozen a0.out i; clear hb7) | (clear S5; refine st23at (g := gr) rfl rfl rfl rfl rfl (by first | exact blk_far a1.out n7.out _ | exact blk_drew (blk_far a1.out n7.out _)) rfl rfl (by first | rfl | (simp [Value.oneCell'])) ?_; intro w8 h8 hk8 hb8; have z0 := Aside0.mk h8; have z1 := Aside0.mk (hb8 _ _ (by first | exact below_set a2.out n6.out | exact below_drew (below_set a2.out n6.out)) n2.out); clear h8 hk8 hb8) | go_in)
              exact bodyPost_ret (results_ct rfl _ _ gr 23 #[.int .i64 0, .int .i64 0, .int .i64 0, .int .i64 0, .int .i64 0, .int .i64 0] (0, 0) _ rfl z0.out Tryd.underlying23 rfl (by kernel_rfl)) rfl ⟨rfl, z1.out⟩
            | true =>
              have hrb2 := HRB.out
              rw [if_pos rfl] at hrb2
              have HRC := Aside0.mk hrb2
              clear hrb2
              go_wp2_with (first | (clear S4; go_at_call 58; refine (script_readNumber.calls y v true _ (tab_keep hTab RW.out) (tabE_keep hTabE RW.out) HV.out).mono ?_; rintro e w7 ⟨rfl, hb7⟩; have a0 := Aside0.mk (blk_below RH.out hb7); have a1 := Aside0.mk (blk_below RZ.out hb7); have a2 := Aside0.mk (below_step RW.out hb7); have a3 := Aside0.mk (blk_below RG.out hb7); have d4 := HCL.out w7 a0.out; have f4 := blk_frozen a0.out i; clear hb7) | go_in)
              go_roundw
              case rel => exact ⟨i + 1, setH hh i v, rfl, by have := H6.out; omega, HRC, ⟨HSET.out _ a0.out⟩, ⟨blk_far a3.out (Ne.symm p4.out) _⟩, ⟨blk_far a1.out n7.out _⟩, ⟨below_set a2.out n6.out⟩⟩
              case measure => have := H6.out; simp only [toN]; omega
          · obtain rfl : i = 6 := by omega
            have hra := HR.out
            have hxl : xs.length = 6 := by have h1 := HN0.out; have h2 := HL.out; simp only [List.length_cons] at h1; omega
            rw [List.drop_eq_nil_of_le (by omega)] at hra
            have hqo : q = some hh := (Option.some.inj hra).symm
            have hz := HQE.out
            subst hqo
            simp only [outH, Prod.mk.injEq] at hz
            obtain ⟨x0, x1, x2, x3, x4, x5, rfl⟩ := hz
            subst x0; subst x1; subst x2; subst x3; subst x4; subst x5
            have d0 : wr.cell? ⟨gh, 0, none⟩ = some (.int .i64 hh.f0) := by rw [Lib.cell_of_heap RH.out]; rfl
            have d1 : wr.cell? ⟨gh, 1, none⟩ = some (.int .i64 hh.f1) := by rw [Lib.cell_of_heap RH.out]; rfl
            have d2 : wr.cell? ⟨gh, 2, none⟩ = some (.int .i64 hh.f2) := by rw [Lib.cell_of_heap RH.out]; rfl
            have d3 : wr.cell? ⟨gh, 3, none⟩ = some (.int .i64 hh.f3) := by rw [Lib.cell_of_heap RH.out]; rfl
            have d4 : wr.cell? ⟨gh, 4, none⟩ = some (.int .i64 hh.f4) := by rw [Lib.cell_of_heap RH.out]; rfl
            have d5 : wr.cell? ⟨gh, 5, none⟩ = some (.int .i64 hh.f5) := by rw [Lib.cell_of_heap RH.out]; rfl
            clear hra hxl
            go_wp2_with (first | (clear S4; refine st23at (g := gr) rfl rfl rfl rfl rfl (by first | exact RZ.out | exact blk_drewN RZ.out _) rfl rfl (by first | rfl | (simp [Value.oneCell'])) ?_; intro w8 h8 hk8 hb8; have z0 := Aside0.mk h8; have z1 := Aside0.mk (hb8 _ _ (by first | exact RW.out | exact pw_below_drewN RW.out _) n2.out); clear h8 hk8 hb8) | go_in)
            exact bodyPost_ret (results_ct rfl _ _ gr 23 (cellsH hh) (0, 0) _ rfl z0.out Tryd.underlying23 rfl (by kernel_rfl)) rfl ⟨rfl, z1.out⟩
      · rw [if_neg (by have := HN0.out; simp only [List.length_cons] at this; omega)] at hX
        have hn : ((nL : Int) != 7) = true := bne_iff_ne.mpr (by omega)
        clear hl hxb H
        simp only [outH, Option.some.injEq, Prod.mk.injEq] at hX
        obtain ⟨x0, x1, x2, x3, x4, x5, rfl⟩ := hX
        subst x0; subst x1; subst x2; subst x3; subst x4; subst x5
        go_enter Tryd.func48, Tryd.ntmps48
        go_wp2_with (first | (clear S1; (with_reducible refine gate_dst (N := 2) rfl ?_); refine box_event ?hg (N := 2) ?hd (cs := #[.int .i64 0, .int .i64 0, .int .i64 0, .int .i64 0, .int .i64 0, .int .i64 0]) (t := 23) ?hr ?_; (case hd => rfl); (case hg => rfl); (case hr => first | (go_simp; done) | (go_simp; rfl)); intro gr hgr w1 hbox hb1; have n0 := Aside0.mk hbox; have n1 := Aside0.mk hb1; have n2 := Aside0.mk (show w.heap.size ≤ gr by rw [hgr]; exact Nat.le_refl _); clear hbox hb1 hgr) | (clear S2; (with_reducible refine gate_dst (N := 4) rfl ?_); refine box_event ?hg (N := 4) ?hd (cs := #[.int .i64 0, .int .i64 0, .int .i64 0, .int .i64 0, .int .i64 0, .int .i64 0]) (t := 23) ?hr ?_; (case hd => rfl); (case hg => rfl); (case hr => first | (go_simp; done) | (go_simp; rfl)); intro gh hgh w2 hbox hb2; have n3 := Aside0.mk hbox; have n4 := Aside0.mk (below_step n1.out hb2); have n5 := Aside0.mk (blk_below n0.out hb2); have n6 := Aside0.mk (show w.heap.size ≤ gh by rw [hgh]; exact n1.out.size); have n7 := Aside0.mk (show gr ≠ gh by rw [hgh]; exact Nat.ne_of_lt (blk_lt n0.out)); have hcell : w2.cell? ad = some (.string x) := HC.out w2 n4.out 0 x rfl; have d0 : w2.cell? ⟨gh, 0, none⟩ = some (.int .i64 0) := (by rw [Lib.cell_of_heap hbox]; rfl); have d1 : w2.cell? ⟨gh, 1, none⟩ = some (.int .i64 0) := (by rw [Lib.cell_of_heap hbox]; rfl); have d2 : w2.cell? ⟨gh, 2, none⟩ = some (.int .i64 0) := (by rw [Lib.cell_of_heap hbox]; rfl); have d3 : w2.cell? ⟨gh, 3, none⟩ = some (.int .i64 0) := (by rw [Lib.cell_of_heap hbox]; rfl); have d4 : w2.cell? ⟨gh, 4, none⟩ = some (.int .i64 0) := (by rw [Lib.cell_of_heap hbox]; rfl); have d5 : w2.cell? ⟨gh, 5, none⟩ = some (.int .i64 0) := (by rw [Lib.cell_of_heap hbox]; rfl); clear hbox hb2 hgh) | (clear S3; refine st23at (g := gr) rfl rfl rfl rfl rfl (by first | exact n5.out | exact blk_drewN n5.out _) rfl rfl (by first | rfl | (simp [Value.oneCell'])) ?_; intro w5 h5 _ hb5; have p0 := Aside0.mk h5; have p1 := Aside0.mk (hb5 _ _ (by first | exact n4.out | exact pw_below_drewN n4.out _) n2.out); clear h5 hb5) | go_in)
        exact bodyPost_ret (results_ct rfl _ _ gr 23 #[.int .i64 0, .int .i64 0, .int .i64 0, .int .i64 0, .int .i64 0, .int .i64 0] (0, 0) _ rfl p0.out Tryd.underlying23 rfl (by kernel_rfl)) rfl ⟨rfl, p1.out⟩
    · have hxb : (x.toList == [115, 116, 111, 114, 101]) = false := beq_eq_false_iff_ne.mpr hx
      have hX := H.out
      rw [if_neg (by rw [hxb]; decide)] at hX
      clear hxb H
      simp only [outH, Option.some.injEq, Prod.mk.injEq] at hX
      obtain ⟨x0, x1, x2, x3, x4, x5, rfl⟩ := hX
      subst x0; subst x1; subst x2; subst x3; subst x4; subst x5
      go_enter Tryd.func48, Tryd.ntmps48
      go_wp2_with (first | (clear S1; (with_reducible refine gate_dst (N := 2) rfl ?_); refine box_event ?hg (N := 2) ?hd (cs := #[.int .i64 0, .int .i64 0, .int .i64 0, .int .i64 0, .int .i64 0, .int .i64 0]) (t := 23) ?hr ?_; (case hd => rfl); (case hg => rfl); (case hr => first | (go_simp; done) | (go_simp; rfl)); intro gr hgr w1 hbox hb1; have n0 := Aside0.mk hbox; have n1 := Aside0.mk hb1; have n2 := Aside0.mk (show w.heap.size ≤ gr by rw [hgr]; exact Nat.le_refl _); clear hbox hb1 hgr) | (clear S2; (with_reducible refine gate_dst (N := 4) rfl ?_); refine box_event ?hg (N := 4) ?hd (cs := #[.int .i64 0, .int .i64 0, .int .i64 0, .int .i64 0, .int .i64 0, .int .i64 0]) (t := 23) ?hr ?_; (case hd => rfl); (case hg => rfl); (case hr => first | (go_simp; done) | (go_simp; rfl)); intro gh hgh w2 hbox hb2; have n3 := Aside0.mk hbox; have n4 := Aside0.mk (below_step n1.out hb2); have n5 := Aside0.mk (blk_below n0.out hb2); have n6 := Aside0.mk (show w.heap.size ≤ gh by rw [hgh]; exact n1.out.size); have n7 := Aside0.mk (show gr ≠ gh by rw [hgh]; exact Nat.ne_of_lt (blk_lt n0.out)); have hcell : w2.cell? ad = some (.string x) := HC.out w2 n4.out 0 x rfl; have d0 : w2.cell? ⟨gh, 0, none⟩ = some (.int .i64 0) := (by rw [Lib.cell_of_heap hbox]; rfl); have d1 : w2.cell? ⟨gh, 1, none⟩ = some (.int .i64 0) := (by rw [Lib.cell_of_heap hbox]; rfl); have d2 : w2.cell? ⟨gh, 2, none⟩ = some (.int .i64 0) := (by rw [Lib.cell_of_heap hbox]; rfl); have d3 : w2.cell? ⟨gh, 3, none⟩ = some (.int .i64 0) := (by rw [Lib.cell_of_heap hbox]; rfl); have d4 : w2.cell? ⟨gh, 4, none⟩ = some (.int .i64 0) := (by rw [Lib.cell_of_heap hbox]; rfl); have d5 : w2.cell? ⟨gh, 5, none⟩ = some (.int .i64 0) := (by rw [Lib.cell_of_heap hbox]; rfl); clear hbox hb2 hgh) | (clear S3; refine st23at (g := gr) rfl rfl rfl rfl rfl (by first | exact n5.out | exact blk_drewN n5.out _) rfl rfl (by first | rfl | (simp [Value.oneCell'])) ?_; intro w5 h5 _ hb5; have p0 := Aside0.mk h5; have p1 := Aside0.mk (hb5 _ _ (by first | exact n4.out | exact pw_below_drewN n4.out _) n2.out); clear h5 hb5) | go_in)
      exact bodyPost_ret (results_ct rfl _ _ gr 23 #[.int .i64 0, .int .i64 0, .int .i64 0, .int .i64 0, .int .i64 0, .int .i64 0] (0, 0) _ rfl p0.out Tryd.underlying23 rfl (by kernel_rfl)) rfl ⟨rfl, p1.out⟩
end Go.Proofs.YtlmdhpfggobogaaDoor.G

namespace Go.Proofs.YtlmdhpfggobogaaDoor.G
open Go.RowKit Go.Proofs.YtlmdhpfggobogaaDoorW.PrintWords Go.Proofs.YtlmdhpfggobogaaDoorW.PrintLast Go.Proofs.YtlmdhpfggobogaaDoorW.PrintMore
attribute [local go_sem] max2_int min2_int max_two min_two max_three min_three max_four min_four   -- for this text's walks alone
set_option linter.unusedVariables false
set_option linter.unusedSimpArgs false
def script_ParseOp.j0 : Nat → List ByteArray → Bool → Option (Int × Int × Int × Int × ByteArray × Int × Int × Int)
 | 0, _, _ => none
 | k + 1, x4, x22 => if x22 = true then (some (0, 0, 0, 0, (⟨#[]⟩ : ByteArray), 0, 0, 17)) else ((script_step.f k x4).bind fun bt130 => (if bt130.2.2.2.2.2.2.2 = true then (some (bt130.1, bt130.2.1, bt130.2.2.1, bt130.2.2.2.1, bt130.2.2.2.2.1, bt130.2.2.2.2.2.1, bt130.2.2.2.2.2.2.1, 0)) else (some (0, 0, 0, 0, (⟨#[]⟩ : ByteArray), 0, 0, 17))))
def script_ParseOp.f (k : Nat) (a0 : ByteArray) : Option (Int × Int × Int × Int × ByteArray × Int × Int × Int) := (script_words.f k a0).bind fun bt125 => ((strings_Contains.f a0 (⟨#[10]⟩ : ByteArray)).bind fun t129 => (if t129 = true then (script_ParseOp.j0 k bt125.1 true) else (if bt125.2 = true then (script_ParseOp.j0 k bt125.1 ((bt125.1.length : Int) == 0)) else (script_ParseOp.j0 k bt125.1 true))))
set_option maxHeartbeats 8000000 in
set_option maxRecDepth 100000 in
theorem script_ParseOp.calls (k : Nat) (a0 : ByteArray) (r1 : Int) (r2 : Int) (r3 : Int) (r4 : Int) (r5 : ByteArray) (r6 : Int) (r7 : Int) (r8 : Int) (w : World) (hTab : Aside0 (Tab w)) (hTabE : Aside0 (TabE w)) (h : script_ParseOp.f k a0 = some (r1, r2, r3, r4, r5, r6, r7, r8)) :
  Calls Tryd.prog 17 #[.string a0] w fun e w' => e = .returned (.tuple #[.agg #[.int .i64 r1, .int .i64 r2, .int .i64 r3, .int .i64 r4, .string r5, .int .i64 r6, .int .i64 r7], .int .i64 r8]) ∧ Below w.heap.size w w' := by
 have hu29 := Tryd.underlying29
 have HB := Aside0.mk (Below.refl w.heap.size w)
 have H : ((script_words.f k a0).bind fun bt125 => ((strings_Contains.f a0 (⟨#[10]⟩ : ByteArray)).bind fun t129 => (if t129 = true then (script_ParseOp.j0 k bt125.1 true) else (if bt125.2 = true then (script_ParseOp.j0 k bt125.1 ((bt125.1.length : Int) == 0)) else (script_ParseOp.j0 k bt125.1 true))))) = some (r1, r2, r3, r4, r5, r6, r7, r8) := h
 clear h
 replace H := Option.bind_eq_some_iff.mp H
 obtain ⟨⟨t125, t126⟩, A20, H⟩ := H
 replace H : ((strings_Contains.f a0 (⟨#[10]⟩ : ByteArray)).bind fun t129 => (if t129 = true then (script_ParseOp.j0 k t125 true) else (if t126 = true then (script_ParseOp.j0 k t125 ((t125.length : Int) == 0)) else (script_ParseOp.j0 k t125 true)))) = some (r1, r2, r3, r4, r5, r6, r7, r8) := H
 have A2 := Aside0.mk A20
 clear A20
 have HC3 := Aside0.mk H
 clear H
 go_enter Tryd.func17, Tryd.ntmps17
 go_upto_region 2 with (first | ((with_reducible refine gate_dst (N := 2) rfl ?_); (try (refine gate_guard (by rfl) ?_; dsimp only)); refine box_event ?hg (N := 2) ?hd (cs := #[.int .i64 0, .int .i64 0, .int .i64 0, .int .i64 0, .string (⟨#[]⟩ : ByteArray), .int .i64 0, .int .i64 0]) (t := 29) ?hr ?_; (case hd => rfl); (case hg => rfl); (case hr => first | (go_simp; done) | (go_simp; rfl)); intro gb124 hg w4 hbox hb; have n0_ := Aside0.mk (below_step (by repeat (first | (with_reducible first | exact HB.out | apply below_alloc | apply pw_below_drewN | apply below_drew1) | exact HB.out)) hb); have n1_ := Aside0.mk (hbox); have n2_ := Aside0.mk ((by rw [hg]; exact (below_size (by repeat (first | (with_reducible first | exact HB.out | apply below_alloc | apply pw_below_drewN | apply below_drew1) | exact HB.out))) : w.heap.size ≤ gb124)); have n3_ := Aside0.mk ((by rw [hg]; exact (below_size (by repeat (first | (with_reducible first | exact HB.out | apply below_alloc | apply pw_below_drewN | apply below_drew1) | exact HB.out))) : w.heap.size ≤ gb124)); clear HB; have HB := n0_; have BK124 := n1_; have GW124 := n2_; have GE124 := n3_; clear n0_ n1_ n2_ n3_; clear hb hbox hg) | ((with_reducible refine gate_callee (f := 35) rfl ?_); refine goesL_ (some 9) rfl rfl Tryd.func35 (by kernel_rfl) rfl #[.string a0] rfl (by (try simp only [List.map_toArray, List.map_cons, List.map_nil]); first | done | rfl | (simp only [List.length_drop, List.length_take]; rfl)) ?_; (with_reducible refine (script_words.calls k a0 t125 t126 _ A2.out).mono ?_); rintro e w5 ⟨v127, rfl, ho0, hb⟩; refine ⟨_, rfl, ?_⟩; have n0_ := Aside0.mk (Kd.R_lower ho0 (below_size (by repeat (first | (with_reducible first | exact HB.out | apply below_alloc | apply pw_below_drewN | apply below_drew1 | refine below_set ?_ GE124.out) | exact HB.out)))); have n1_ := Aside0.mk (blk_below (g := gb124) (o := .cells #[.int .i64 0, .int .i64 0, .int .i64 0, .int .i64 0, .string (⟨#[]⟩ : ByteArray), .int .i64 0, .int .i64 0] 29 (0, 0)) (by (with_reducible repeat (first | refine blk_drewN ?_ _ | refine blk_drew ?_ | refine blk_alloc ?_ _)); exact BK124.out) hb); have n2_ := Aside0.mk (below_step (by repeat (first | (with_reducible first | exact HB.out | apply below_alloc | apply pw_below_drewN | apply below_drew1 | refine below_set ?_ GE124.out) | exact HB.out)) hb); clear BK124; clear HB; have HO128 := n0_; have BK124 := n1_; have HB := n2_; clear n0_ n1_ n2_; (try clear hb); (try clear hb2); (try clear hk); (try clear hi); (try clear ho0)))
 (try simp only [Act.put, List.setIfInBounds_toArray, List.set_cons_zero, List.set_cons_succ])
 go_cut [22] (fun v22 wc => ∃ (kq : Nat) (x22_2 : Bool), v22 = .bool x22_2 ∧ Aside0 (script_ParseOp.j0 kq t125 x22_2 = some (r1, r2, r3, r4, r5, r6, r7, r8)) ∧ Aside0 (kq ≤ k) ∧ Aside0 (Kd.R Kd.string 9 wc w.heap.size (fun _ => True) v127 t125) ∧ Aside0 (wc.heap[gb124]? = some (.cells #[.int .i64 0, .int .i64 0, .int .i64 0, .int .i64 0, .string (⟨#[]⟩ : ByteArray), .int .i64 0, .int .i64 0] 29 (0, 0))) ∧ Aside0 (Below w.heap.size w wc))
 case first =>
  have H := HC3.out
  clear HC3
  replace H := Option.bind_eq_some_iff.mp H
  obtain ⟨t129, A60, H⟩ := H
  replace H : (if t129 = true then (script_ParseOp.j0 k t125 true) else (if t126 = true then (script_ParseOp.j0 k t125 ((t125.length : Int) == 0)) else (script_ParseOp.j0 k t125 true))) = some (r1, r2, r3, r4, r5, r6, r7, r8) := H
  have A6 := Aside0.mk A60
  clear A60
  by_cases c7 : t129 = true
  ·subst c7
   have H1 : (script_ParseOp.j0 k t125 true) = some (r1, r2, r3, r4, r5, r6, r7, r8) := by rw [if_pos rfl] at H; exact H
   clear H
   have H := H1
   clear H1
   have H' := Aside0.mk H
   clear H
   go_wp2_with (first | ((with_reducible refine gate_callee (f := 36) rfl ?_); refine goesL_ (some 13) rfl rfl Tryd.func36 (by kernel_rfl) rfl #[.string a0, .string (⟨#[10]⟩ : ByteArray)] rfl (by (try simp only [List.map_toArray, List.map_cons, List.map_nil]); first | done | rfl | (simp only [List.length_drop, List.length_take]; rfl)) ?_; (with_reducible refine (strings_Contains.calls a0 (⟨#[10]⟩ : ByteArray) true _ A6.out).mono ?_); rintro e w' ⟨rfl, ⟨nd, rfl⟩⟩; refine ⟨_, rfl, ?_⟩))
   go_meet
   case rel => exact ⟨_, (true), (by first | rfl | (simp; done) | (simp [*]; done)), H', ⟨by first | omega | exact Nat.le_refl _⟩, ⟨by (with_reducible repeat (first | apply Kd.R_alloc | apply Kd.R_drewN | apply Kd.R_drew)); exact HO128.out⟩, ⟨by (with_reducible repeat (first | refine blk_drewN ?_ _ | refine blk_drew ?_ | refine blk_alloc ?_ _)); exact BK124.out⟩, ⟨by repeat (first | (with_reducible first | exact HB.out | apply below_alloc | apply pw_below_drewN | apply below_drew1 | refine below_set ?_ GE124.out) | exact HB.out)⟩⟩
  ·replace c7 := Bool.eq_false_iff.mpr c7
   subst c7
   have H1 : (if t126 = true then (script_ParseOp.j0 k t125 ((t125.length : Int) == 0)) else (script_ParseOp.j0 k t125 true)) = some (r1, r2, r3, r4, r5, r6, r7, r8) := by rw [if_neg (show ¬ (false = true) by decide)] at H; exact H
   clear H
   have H := H1
   clear H1
   by_cases c8 : t126 = true
   ·subst c8
    have H1 : (script_ParseOp.j0 k t125 ((t125.length : Int) == 0)) = some (r1, r2, r3, r4, r5, r6, r7, r8) := by rw [if_pos rfl] at H; exact H
    clear H
    have H := H1
    clear H1
    have H' := Aside0.mk H
    clear H
    go_wp2_with (first | ((with_reducible refine gate_callee (f := 36) rfl ?_); refine goesL_ (some 13) rfl rfl Tryd.func36 (by kernel_rfl) rfl #[.string a0, .string (⟨#[10]⟩ : ByteArray)] rfl (by (try simp only [List.map_toArray, List.map_cons, List.map_nil]); first | done | rfl | (simp only [List.length_drop, List.length_take]; rfl)) ?_; (with_reducible refine (strings_Contains.calls a0 (⟨#[10]⟩ : ByteArray) false _ A6.out).mono ?_); rintro e w' ⟨rfl, ⟨nd, rfl⟩⟩; refine ⟨_, rfl, ?_⟩; obtain ⟨Ao9, co9, eo9⟩ := Kd.R_slice HO128.out; subst eo9))
    go_meet
    case rel => exact ⟨_, (((t125.length : Int) == 0)), (by first | rfl | (simp; done) | (simp [*]; done)), H', ⟨by first | omega | exact Nat.le_refl _⟩, ⟨by (with_reducible repeat (first | apply Kd.R_alloc | apply Kd.R_drewN | apply Kd.R_drew)); exact HO128.out⟩, ⟨by (with_reducible repeat (first | refine blk_drewN ?_ _ | refine blk_drew ?_ | refine blk_alloc ?_ _)); exact BK124.out⟩, ⟨by repeat (first | (with_reducible first | exact HB.out | apply below_alloc | apply pw_below_drewN | apply below_drew1 | refine below_set ?_ GE124.out) | exact HB.out)⟩⟩
   ·replace c8 := Bool.eq_false_iff.mpr c8
    subst c8
    have H1 : (script_ParseOp.j0 k t125 true) = some (r1, r2, r3, r4, r5, r6, r7, r8) := by rw [if_neg (show ¬ (false = true) by decide)] at H; exact H
    clear H
    have H := H1
    clear H1
    have H' := Aside0.mk H
    clear H
    go_wp2_with (first | ((with_reducible refine gate_callee (f := 36) rfl ?_); refine goesL_ (some 13) rfl rfl Tryd.func36 (by kernel_rfl) rfl #[.string a0, .string (⟨#[10]⟩ : ByteArray)] rfl (by (try simp only [List.map_toArray, List.map_cons, List.map_nil]); first | done | rfl | (simp only [List.length_drop, List.length_take]; rfl)) ?_; (with_reducible refine (strings_Contains.calls a0 (⟨#[10]⟩ : ByteArray) false _ A6.out).mono ?_); rintro e w' ⟨rfl, ⟨nd, rfl⟩⟩; refine ⟨_, rfl, ?_⟩))
    go_meet
    case rel => exact ⟨_, (true), (by first | rfl | (simp; done) | (simp [*]; done)), H', ⟨by first | omega | exact Nat.le_refl _⟩, ⟨by (with_reducible repeat (first | apply Kd.R_alloc | apply Kd.R_drewN | apply Kd.R_drew)); exact HO128.out⟩, ⟨by (with_reducible repeat (first | refine blk_drewN ?_ _ | refine blk_drew ?_ | refine blk_alloc ?_ _)); exact BK124.out⟩, ⟨by repeat (first | (with_reducible first | exact HB.out | apply below_alloc | apply pw_below_drewN | apply below_drew1 | refine below_set ?_ GE124.out) | exact HB.out)⟩⟩
 case rest =>
  clear HC3
  try clear c1
  try clear p2
  try clear c3
  try clear c7
  try clear c8
  obtain ⟨kq, x22_2, rfl, HA, HJ2, HO_4, BK124, HB⟩ := hcut
  cases kq with
  | zero => exact absurd HA.out (by simp [script_ParseOp.j0])
  | succ kj2 =>
   have H := HA.out
   clear HA
   simp only [script_ParseOp.j0] at H
   by_cases c10 : x22_2 = true
   ·subst c10
    have H1 : (some (0, 0, 0, 0, (⟨#[]⟩ : ByteArray), 0, 0, 17)) = some (r1, r2, r3, r4, r5, r6, r7, r8) := by rw [if_pos rfl] at H; exact H
    clear H
    have H := H1
    clear H1
    simp only [Option.some.injEq, Prod.mk.injEq] at H
    obtain ⟨rfl, rfl, rfl, rfl, rfl, rfl, rfl, rfl⟩ := H
    have hcz11_0 : wc.cell? ⟨gb124, 0, none⟩ = some (.int .i64 0) := (blk_cell BK124.out 0).trans rfl
    have hcz11_1 : wc.cell? ⟨gb124, 1, none⟩ = some (.int .i64 0) := (blk_cell BK124.out 1).trans rfl
    have hcz11_2 : wc.cell? ⟨gb124, 2, none⟩ = some (.int .i64 0) := (blk_cell BK124.out 2).trans rfl
    have hcz11_3 : wc.cell? ⟨gb124, 3, none⟩ = some (.int .i64 0) := (blk_cell BK124.out 3).trans rfl
    have hcz11_4 : wc.cell? ⟨gb124, 4, none⟩ = some (.string (⟨#[]⟩ : ByteArray)) := (blk_cell BK124.out 4).trans rfl
    have hcz11_5 : wc.cell? ⟨gb124, 5, none⟩ = some (.int .i64 0) := (blk_cell BK124.out 5).trans rfl
    have hcz11_6 : wc.cell? ⟨gb124, 6, none⟩ = some (.int .i64 0) := (blk_cell BK124.out 6).trans rfl
    have hfz11_0 := blk_frozen BK124.out 0
    have hfz11_1 := blk_frozen BK124.out 1
    have hfz11_2 := blk_frozen BK124.out 2
    have hfz11_3 := blk_frozen BK124.out 3
    have hfz11_4 := blk_frozen BK124.out 4
    have hfz11_5 := blk_frozen BK124.out 5
    have hfz11_6 := blk_frozen BK124.out 6
    go_wp2
    refine bodyPost_ret (results_ct rfl _ _ gb124 29 #[.int .i64 0, .int .i64 0, .int .i64 0, .int .i64 0, .string (⟨#[]⟩ : ByteArray), .int .i64 0, .int .i64 0] (0, 0) _ rfl (by (with_reducible repeat (first | refine blk_drewN ?_ _ | refine blk_drew ?_ | refine blk_alloc ?_ _)); refine blk_put (cs := #[.int .i64 0, .int .i64 0, .int .i64 0, .int .i64 0, .string (⟨#[]⟩ : ByteArray), .int .i64 0, .int .i64 0]) ?_ 6 _ rfl; (with_reducible repeat (first | refine blk_drewN ?_ _ | refine blk_drew ?_ | refine blk_alloc ?_ _)); refine blk_put (cs := #[.int .i64 0, .int .i64 0, .int .i64 0, .int .i64 0, .string (⟨#[]⟩ : ByteArray), .int .i64 0, .int .i64 0]) ?_ 5 _ rfl; (with_reducible repeat (first | refine blk_drewN ?_ _ | refine blk_drew ?_ | refine blk_alloc ?_ _)); refine blk_put (cs := #[.int .i64 0, .int .i64 0, .int .i64 0, .int .i64 0, .string (⟨#[]⟩ : ByteArray), .int .i64 0, .int .i64 0]) ?_ 4 _ rfl; (with_reducible repeat (first | refine blk_drewN ?_ _ | refine blk_drew ?_ | refine blk_alloc ?_ _)); refine blk_put (cs := #[.int .i64 0, .int .i64 0, .int .i64 0, .int .i64 0, .string (⟨#[]⟩ : ByteArray), .int .i64 0, .int .i64 0]) ?_ 3 _ rfl; (with_reducible repeat (first | refine blk_drewN ?_ _ | refine blk_drew ?_ | refine blk_alloc ?_ _)); refine blk_put (cs := #[.int .i64 0, .int .i64 0, .int .i64 0, .int .i64 0, .string (⟨#[]⟩ : ByteArray), .int .i64 0, .int .i64 0]) ?_ 2 _ rfl; (with_reducible repeat (first | refine blk_drewN ?_ _ | refine blk_drew ?_ | refine blk_alloc ?_ _)); refine blk_put (cs := #[.int .i64 0, .int .i64 0, .int .i64 0, .int .i64 0, .string (⟨#[]⟩ : ByteArray), .int .i64 0, .int .i64 0]) ?_ 1 _ rfl; (with_reducible repeat (first | refine blk_drewN ?_ _ | refine blk_drew ?_ | refine blk_alloc ?_ _)); refine blk_put (cs := #[.int .i64 0, .int .i64 0, .int .i64 0, .int .i64 0, .string (⟨#[]⟩ : ByteArray), .int .i64 0, .int .i64 0]) ?_ 0 _ rfl; (with_reducible repeat (first | refine blk_drewN ?_ _ | refine blk_drew ?_ | refine blk_alloc ?_ _)); exact BK124.out) Tryd.underlying29 rfl (by kernel_rfl)) rfl ?_
    exact ⟨by first | rfl | (simp [errW_none, errW_some] <;> rfl) | (simp [*, errW_none, errW_some] <;> rfl), by repeat (first | (with_reducible first | exact HB.out | apply below_alloc | apply pw_below_drewN | apply below_drew1 | refine below_set ?_ GE124.out) | exact HB.out)⟩
   ·replace c10 := Bool.eq_false_iff.mpr c10
    subst c10
    have H1 : ((script_step.f kj2 t125).bind fun bt130 => (if bt130.2.2.2.2.2.2.2 = true then (some (bt130.1, bt130.2.1, bt130.2.2.1, bt130.2.2.2.1, bt130.2.2.2.2.1, bt130.2.2.2.2.2.1, bt130.2.2.2.2.2.2.1, 0)) else (some (0, 0, 0, 0, (⟨#[]⟩ : ByteArray), 0, 0, 17)))) = some (r1, r2, r3, r4, r5, r6, r7, r8) := by rw [if_neg (show ¬ (false = true) by decide)] at H; exact H
    clear H
    have H := H1
    clear H1
    replace H := Option.bind_eq_some_iff.mp H
    obtain ⟨⟨t130, t131, t132, t133, t134, t135, t136, t137⟩, A120, H⟩ := H
    replace H : (if t137 = true then (some (t130, t131, t132, t133, t134, t135, t136, 0)) else (some (0, 0, 0, 0, (⟨#[]⟩ : ByteArray), 0, 0, 17))) = some (r1, r2, r3, r4, r5, r6, r7, r8) := H
    have A12 := Aside0.mk A120
    clear A120
    by_cases c13 : t137 = true
    ·subst c13
     have H1 : (some (t130, t131, t132, t133, t134, t135, t136, 0)) = some (r1, r2, r3, r4, r5, r6, r7, r8) := by rw [if_pos rfl] at H; exact H
     clear H
     have H := H1
     clear H1
     simp only [Option.some.injEq, Prod.mk.injEq] at H
     obtain ⟨rfl, rfl, rfl, rfl, rfl, rfl, rfl, rfl⟩ := H
     obtain ⟨Ao14, co14, eo14⟩ := Kd.R_slice HO_4.out
     subst eo14
     go_wp2_with (first | ((with_reducible refine gate_callee (f := 37) rfl ?_); refine goesL_ (some 26) rfl rfl Tryd.func37 (by kernel_rfl) rfl #[.slice Ao14 t125.length co14] rfl (by (try simp only [List.map_toArray, List.map_cons, List.map_nil]); first | done | rfl | (simp only [List.length_drop, List.length_take]; rfl)) ?_; (with_reducible refine (script_step.calls kj2 _ _ t125 t130 t131 t132 t133 t134 t135 t136 true _ ?tab1_ ?tab2_ ?side1 ?side2 A12.out).mono ?_); (case tab1_ => exact tab_keep hTab (by repeat (first | (with_reducible first | exact HB.out | apply below_alloc | apply pw_below_drewN | apply below_drew1) | (with_reducible refine below_set ?_ GE124.out) | (with_reducible refine below_set ?_ GE138.out) | exact HB.out))); (case tab2_ => exact tabE_keep hTabE (by repeat (first | (with_reducible first | exact HB.out | apply below_alloc | apply pw_below_drewN | apply below_drew1) | (with_reducible refine below_set ?_ GE124.out) | (with_reducible refine below_set ?_ GE138.out) | exact HB.out))); (case side1 => repeat (first | exact (Kd.R_reads' HO_4.out).2.2 | (with_reducible refine Kd.C_alloc ?_ _) | (with_reducible refine Kd.C_drewN ?_ _) | (with_reducible refine Kd.C_drew ?_))); (case side2 => exact (Kd.R_reads' HO_4.out).2.1); rintro e w15 ⟨rfl, hb⟩; refine ⟨_, rfl, ?_⟩; have n0_ := Aside0.mk (Kd.R_below (by (with_reducible repeat (first | apply Kd.R_alloc | apply Kd.R_drewN | apply Kd.R_drew)); exact HO_4.out) hb); have n1_ := Aside0.mk (blk_below (g := gb124) (o := .cells #[.int .i64 0, .int .i64 0, .int .i64 0, .int .i64 0, .string (⟨#[]⟩ : ByteArray), .int .i64 0, .int .i64 0] 29 (0, 0)) (by (with_reducible repeat (first | refine blk_drewN ?_ _ | refine blk_drew ?_ | refine blk_alloc ?_ _)); exact BK124.out) hb); have n2_ := Aside0.mk (below_step (by repeat (first | (with_reducible first | exact HB.out | apply below_alloc | apply pw_below_drewN | apply below_drew1 | refine below_set ?_ GE124.out) | exact HB.out)) hb); clear HO_4; clear BK124; clear HB; have HO_4 := n0_; have BK124 := n1_; have HB := n2_; clear n0_ n1_ n2_; (try clear hb); (try clear hb2); (try clear hk); (try clear hi)) | ((with_reducible refine gate_dst (N := 6) rfl ?_); (try (refine gate_guard (by rfl) ?_; dsimp only)); refine box_event ?hg (N := 6) ?hd (cs := #[.int .i64 0, .int .i64 0, .int .i64 0, .int .i64 0, .string (⟨#[]⟩ : ByteArray), .int .i64 0, .int .i64 0]) (t := 29) ?hr ?_; (case hd => rfl); (case hg => rfl); (case hr => first | (go_simp; done) | (go_simp; rfl)); intro gb138 hg w16 hbox hb; have n0_ := Aside0.mk (Kd.R_below (by (with_reducible repeat (first | apply Kd.R_alloc | apply Kd.R_drewN | apply Kd.R_drew)); exact HO_4.out) hb); have n1_ := Aside0.mk (blk_below (g := gb124) (o := .cells #[.int .i64 0, .int .i64 0, .int .i64 0, .int .i64 0, .string (⟨#[]⟩ : ByteArray), .int .i64 0, .int .i64 0] 29 (0, 0)) (by (with_reducible repeat (first | refine blk_drewN ?_ _ | refine blk_drew ?_ | refine blk_alloc ?_ _)); exact BK124.out) hb); have n2_ := Aside0.mk (below_step (by repeat (first | (with_reducible first | exact HB.out | apply below_alloc | apply pw_below_drewN | apply below_drew1 | refine below_set ?_ GE124.out) | exact HB.out)) hb); have n3_ := Aside0.mk (hbox); have n4_ := Aside0.mk ((by rw [hg]; exact (below_size (by repeat (first | (with_reducible first | exact HB.out | apply below_alloc | apply pw_below_drewN | apply below_drew1 | refine below_set ?_ GE124.out) | exact HB.out))) : w.heap.size ≤ gb138)); have n5_ := Aside0.mk ((by rw [hg]; exact (below_size (by repeat (first | (with_reducible first | exact HB.out | apply below_alloc | apply pw_below_drewN | apply below_drew1 | refine below_set ?_ GE124.out) | exact HB.out))) : w.heap.size ≤ gb138)); have n6_ := Aside0.mk ((by rw [hg]; exact Nat.ne_of_lt (blk_lt (g := gb124) (o := .cells #[.int .i64 0, .int .i64 0, .int .i64 0, .int .i64 0, .string (⟨#[]⟩ : ByteArray), .int .i64 0, .int .i64 0] 29 (0, 0)) (by (with_reducible repeat (first | refine blk_drewN ?_ _ | refine blk_drew ?_ | refine blk_alloc ?_ _)); exact BK124.out)) : gb124 ≠ gb138)); have n7_ := Aside0.mk ((by rw [hg]; exact Nat.ne_of_gt (blk_lt (g := gb124) (o := .cells #[.int .i64 0, .int .i64 0, .int .i64 0, .int .i64 0, .string (⟨#[]⟩ : ByteArray), .int .i64 0, .int .i64 0] 29 (0, 0)) (by (with_reducible repeat (first | refine blk_drewN ?_ _ | refine blk_drew ?_ | refine blk_alloc ?_ _)); exact BK124.out)) : gb138 ≠ gb124)); clear HO_4; clear BK124; clear HB; have HO_4 := n0_; have BK124 := n1_; have HB := n2_; have BK138 := n3_; have GW138 := n4_; have GE138 := n5_; have NB124_138 := n6_; have NB138_124 := n7_; clear n0_ n1_ n2_ n3_ n4_ n5_ n6_ n7_; clear hb hbox hg; have hnb17 := NB138_124.out; have hnc17 := NB124_138.out; have hcz18_0 : w16.cell? ⟨gb138, 0, none⟩ = some (.int .i64 0) := (blk_cell BK138.out 0).trans rfl; have hcz18_1 : w16.cell? ⟨gb138, 1, none⟩ = some (.int .i64 0) := (blk_cell BK138.out 1).trans rfl; have hcz18_2 : w16.cell? ⟨gb138, 2, none⟩ = some (.int .i64 0) := (blk_cell BK138.out 2).trans rfl; have hcz18_3 : w16.cell? ⟨gb138, 3, none⟩ = some (.int .i64 0) := (blk_cell BK138.out 3).trans rfl; have hcz18_4 : w16.cell? ⟨gb138, 4, none⟩ = some (.string (⟨#[]⟩ : ByteArray)) := (blk_cell BK138.out 4).trans rfl; have hcz18_5 : w16.cell? ⟨gb138, 5, none⟩ = some (.int .i64 0) := (blk_cell BK138.out 5).trans rfl; have hcz18_6 : w16.cell? ⟨gb138, 6, none⟩ = some (.int .i64 0) := (blk_cell BK138.out 6).trans rfl; have hfz18_0 := blk_frozen BK138.out 0; have hfz18_1 := blk_frozen BK138.out 1; have hfz18_2 := blk_frozen BK138.out 2; have hfz18_3 := blk_frozen BK138.out 3; have hfz18_4 := blk_frozen BK138.out 4; have hfz18_5 := blk_frozen BK138.out 5; have hfz18_6 := blk_frozen BK138.out 6; have hcz19_0 : w16.cell? ⟨gb124, 0, none⟩ = some (.int .i64 0) := (blk_cell BK124.out 0).trans rfl; have hcz19_1 : w16.cell? ⟨gb124, 1, none⟩ = some (.int .i64 0) := (blk_cell BK124.out 1).trans rfl; have hcz19_2 : w16.cell? ⟨gb124, 2, none⟩ = some (.int .i64 0) := (blk_cell BK124.out 2).trans rfl; have hcz19_3 : w16.cell? ⟨gb124, 3, none⟩ = some (.int .i64 0) := (blk_cell BK124.out 3).trans rfl; have hcz19_4 : w16.cell? ⟨gb124, 4, none⟩ = some (.string (⟨#[]⟩ : ByteArray)) := (blk_cell BK124.out 4).trans rfl; have hcz19_5 : w16.cell? ⟨gb124, 5, none⟩ = some (.int .i64 0) := (blk_cell BK124.out 5).trans rfl; have hcz19_6 : w16.cell? ⟨gb124, 6, none⟩ = some (.int .i64 0) := (blk_cell BK124.out 6).trans rfl; have hfz19_0 := blk_frozen BK124.out 0; have hfz19_1 := blk_frozen BK124.out 1; have hfz19_2 := blk_frozen BK124.out 2; have hfz19_3 := blk_frozen BK124.out 3; have hfz19_4 := blk_frozen BK124.out 4; have hfz19_5 := blk_frozen BK124.out 5; have hfz19_6 := blk_frozen BK124.out 6))
     refine bodyPost_ret (results_ct rfl _ _ gb124 29 #[.int .i64 t130, .int .i64 t131, .int .i64 t132, .int .i64 t133, .string t134, .int .i64 t135, .int .i64 t136] (0, 0) _ rfl (by (with_reducible repeat (first | refine blk_drewN ?_ _ | refine blk_drew ?_ | refine blk_alloc ?_ _)); refine blk_put (cs := #[.int .i64 t130, .int .i64 t131, .int .i64 t132, .int .i64 t133, .string t134, .int .i64 t135, .int .i64 0]) ?_ 6 _ rfl; (with_reducible repeat (first | refine blk_drewN ?_ _ | refine blk_drew ?_ | refine blk_alloc ?_ _)); refine blk_put (cs := #[.int .i64 t130, .int .i64 t131, .int .i64 t132, .int .i64 t133, .string t134, .int .i64 0, .int .i64 0]) ?_ 5 _ rfl; (with_reducible repeat (first | refine blk_drewN ?_ _ | refine blk_drew ?_ | refine blk_alloc ?_ _)); refine blk_put (cs := #[.int .i64 t130, .int .i64 t131, .int .i64 t132, .int .i64 t133, .string (⟨#[]⟩ : ByteArray), .int .i64 0, .int .i64 0]) ?_ 4 _ rfl; (with_reducible repeat (first | refine blk_drewN ?_ _ | refine blk_drew ?_ | refine blk_alloc ?_ _)); refine blk_put (cs := #[.int .i64 t130, .int .i64 t131, .int .i64 t132, .int .i64 0, .string (⟨#[]⟩ : ByteArray), .int .i64 0, .int .i64 0]) ?_ 3 _ rfl; (with_reducible repeat (first | refine blk_drewN ?_ _ | refine blk_drew ?_ | refine blk_alloc ?_ _)); refine blk_put (cs := #[.int .i64 t130, .int .i64 t131, .int .i64 0, .int .i64 0, .string (⟨#[]⟩ : ByteArray), .int .i64 0, .int .i64 0]) ?_ 2 _ rfl; (with_reducible repeat (first | refine blk_drewN ?_ _ | refine blk_drew ?_ | refine blk_alloc ?_ _)); refine blk_put (cs := #[.int .i64 t130, .int .i64 0, .int .i64 0, .int .i64 0, .string (⟨#[]⟩ : ByteArray), .int .i64 0, .int .i64 0]) ?_ 1 _ rfl; (with_reducible repeat (first | refine blk_drewN ?_ _ | refine blk_drew ?_ | refine blk_alloc ?_ _)); refine blk_put (cs := #[.int .i64 0, .int .i64 0, .int .i64 0, .int .i64 0, .string (⟨#[]⟩ : ByteArray), .int .i64 0, .int .i64 0]) ?_ 0 _ rfl; (with_reducible repeat (first | refine blk_drewN ?_ _ | refine blk_drew ?_ | refine blk_alloc ?_ _)); refine blk_far ?_ NB124_138.out _; (with_reducible repeat (first | refine blk_drewN ?_ _ | refine blk_drew ?_ | refine blk_alloc ?_ _)); refine blk_far ?_ NB124_138.out _; (with_reducible repeat (first | refine blk_drewN ?_ _ | refine blk_drew ?_ | refine blk_alloc ?_ _)); refine blk_far ?_ NB124_138.out _; (with_reducible repeat (first | refine blk_drewN ?_ _ | refine blk_drew ?_ | refine blk_alloc ?_ _)); refine blk_far ?_ NB124_138.out _; (with_reducible repeat (first | refine blk_drewN ?_ _ | refine blk_drew ?_ | refine blk_alloc ?_ _)); refine blk_far ?_ NB124_138.out _; (with_reducible repeat (first | refine blk_drewN ?_ _ | refine blk_drew ?_ | refine blk_alloc ?_ _)); refine blk_far ?_ NB124_138.out _; (with_reducible repeat (first | refine blk_drewN ?_ _ | refine blk_drew ?_ | refine blk_alloc ?_ _)); refine blk_far ?_ NB124_138.out _; (with_reducible repeat (first | refine blk_drewN ?_ _ | refine blk_drew ?_ | refine blk_alloc ?_ _)); exact BK124.out) Tryd.underlying29 rfl (by kernel_rfl)) rfl ?_
     exact ⟨by first | rfl | (simp [errW_none, errW_some] <;> rfl) | (simp [*, errW_none, errW_some] <;> rfl), by repeat (first | (with_reducible first | exact HB.out | apply below_alloc | apply pw_below_drewN | apply below_drew1 | refine below_set ?_ GE124.out | refine below_set ?_ GE138.out) | exact HB.out)⟩
    ·replace c13 := Bool.eq_false_iff.mpr c13
     subst c13
     have H1 : (some (0, 0, 0, 0, (⟨#[]⟩ : ByteArray), 0, 0, 17)) = some (r1, r2, r3, r4, r5, r6, r7, r8) := by rw [if_neg (show ¬ (false = true) by decide)] at H; exact H
     clear H
     have H := H1
     clear H1
     simp only [Option.some.injEq, Prod.mk.injEq] at H
     obtain ⟨rfl, rfl, rfl, rfl, rfl, rfl, rfl, rfl⟩ := H
     obtain ⟨Ao20, co20, eo20⟩ := Kd.R_slice HO_4.out
     subst eo20
     go_wp2_with (first | ((with_reducible refine gate_callee (f := 37) rfl ?_); refine goesL_ (some 26) rfl rfl Tryd.func37 (by kernel_rfl) rfl #[.slice Ao20 t125.length co20] rfl (by (try simp only [List.map_toArray, List.map_cons, List.map_nil]); first | done | rfl | (simp only [List.length_drop, List.length_take]; rfl)) ?_; (with_reducible refine (script_step.calls kj2 _ _ t125 t130 t131 t132 t133 t134 t135 t136 false _ ?tab1_ ?tab2_ ?side1 ?side2 A12.out).mono ?_); (case tab1_ => exact tab_keep hTab (by repeat (first | (with_reducible first | exact HB.out | apply below_alloc | apply pw_below_drewN | apply below_drew1) | (with_reducible refine below_set ?_ GE124.out) | (with_reducible refine below_set ?_ GE138.out) | exact HB.out))); (case tab2_ => exact tabE_keep hTabE (by repeat (first | (with_reducible first | exact HB.out | apply below_alloc | apply pw_below_drewN | apply below_drew1) | (with_reducible refine below_set ?_ GE124.out) | (with_reducible refine below_set ?_ GE138.out) | exact HB.out))); (case side1 => repeat (first | exact (Kd.R_reads' HO_4.out).2.2 | (with_reducible refine Kd.C_alloc ?_ _) | (with_reducible refine Kd.C_drewN ?_ _) | (with_reducible refine Kd.C_drew ?_))); (case side2 => exact (Kd.R_reads' HO_4.out).2.1); rintro e w21 ⟨rfl, hb⟩; refine ⟨_, rfl, ?_⟩; have n0_ := Aside0.mk (Kd.R_below (by (with_reducible repeat (first | apply Kd.R_alloc | apply Kd.R_drewN | apply Kd.R_drew)); exact HO_4.out) hb); have n1_ := Aside0.mk (blk_below (g := gb124) (o := .cells #[.int .i64 0, .int .i64 0, .int .i64 0, .int .i64 0, .string (⟨#[]⟩ : ByteArray), .int .i64 0, .int .i64 0] 29 (0, 0)) (by (with_reducible repeat (first | refine blk_drewN ?_ _ | refine blk_drew ?_ | refine blk_alloc ?_ _)); exact BK124.out) hb); have n2_ := Aside0.mk (below_step (by repeat (first | (with_reducible first | exact HB.out | apply below_alloc | apply pw_below_drewN | apply below_drew1 | refine below_set ?_ GE124.out) | exact HB.out)) hb); clear HO_4; clear BK124; clear HB; have HO_4 := n0_; have BK124 := n1_; have HB := n2_; clear n0_ n1_ n2_; (try clear hb); (try clear hb2); (try clear hk); (try clear hi)) | ((with_reducible refine gate_dst (N := 6) rfl ?_); (try (refine gate_guard (by rfl) ?_; dsimp only)); refine box_event ?hg (N := 6) ?hd (cs := #[.int .i64 0, .int .i64 0, .int .i64 0, .int .i64 0, .string (⟨#[]⟩ : ByteArray), .int .i64 0, .int .i64 0]) (t := 29) ?hr ?_; (case hd => rfl); (case hg => rfl); (case hr => first | (go_simp; done) | (go_simp; rfl)); intro gb138 hg w22 hbox hb; have n0_ := Aside0.mk (Kd.R_below (by (with_reducible repeat (first | apply Kd.R_alloc | apply Kd.R_drewN | apply Kd.R_drew)); exact HO_4.out) hb); have n1_ := Aside0.mk (blk_below (g := gb124) (o := .cells #[.int .i64 0, .int .i64 0, .int .i64 0, .int .i64 0, .string (⟨#[]⟩ : ByteArray), .int .i64 0, .int .i64 0] 29 (0, 0)) (by (with_reducible repeat (first | refine blk_drewN ?_ _ | refine blk_drew ?_ | refine blk_alloc ?_ _)); exact BK124.out) hb); have n2_ := Aside0.mk (below_step (by repeat (first | (with_reducible first | exact HB.out | apply below_alloc | apply pw_below_drewN | apply below_drew1 | refine below_set ?_ GE124.out) | exact HB.out)) hb); have n3_ := Aside0.mk (hbox); have n4_ := Aside0.mk ((by rw [hg]; exact (below_size (by repeat (first | (with_reducible first | exact HB.out | apply below_alloc | apply pw_below_drewN | apply below_drew1 | refine below_set ?_ GE124.out) | exact HB.out))) : w.heap.size ≤ gb138)); have n5_ := Aside0.mk ((by rw [hg]; exact (below_size (by repeat (first | (with_reducible first | exact HB.out | apply below_alloc | apply pw_below_drewN | apply below_drew1 | refine below_set ?_ GE124.out) | exact HB.out))) : w.heap.size ≤ gb138)); have n6_ := Aside0.mk ((by rw [hg]; exact Nat.ne_of_lt (blk_lt (g := gb124) (o := .cells #[.int .i64 0, .int .i64 0, .int .i64 0, .int .i64 0, .string (⟨#[]⟩ : ByteArray), .int .i64 0, .int .i64 0] 29 (0, 0)) (by (with_reducible repeat (first | refine blk_drewN ?_ _ | refine blk_drew ?_ | refine blk_alloc ?_ _)); exact BK124.out)) : gb124 ≠ gb138)); have n7_ := Aside0.mk ((by rw [hg]; exact Nat.ne_of_gt (blk_lt (g := gb124) (o := .cells #[.int .i64 0, .int .i64 0, .int .i64 0, .int .i64 0, .string (⟨#[]⟩ : ByteArray), .int .i64 0, .int .i64 0] 29 (0, 0)) (by (with_reducible repeat (first | refine blk_drewN ?_ _ | refine blk_drew ?_ | refine blk_alloc ?_ _)); exact BK124.out)) : gb138 ≠ gb124)); clear HO_4; clear BK124; clear HB; have HO_4 := n0_; have BK124 := n1_; have HB := n2_; have BK138 := n3_; have GW138 := n4_; have GE138 := n5_; have NB124_138 := n6_; have NB138_124 := n7_; clear n0_ n1_ n2_ n3_ n4_ n5_ n6_ n7_; clear hb hbox hg; have hnb23 := NB138_124.out; have hnc23 := NB124_138.out; have hcz24_0 : w22.cell? ⟨gb138, 0, none⟩ = some (.int .i64 0) := (blk_cell BK138.out 0).trans rfl; have hcz24_1 : w22.cell? ⟨gb138, 1, none⟩ = some (.int .i64 0) := (blk_cell BK138.out 1).trans rfl; have hcz24_2 : w22.cell? ⟨gb138, 2, none⟩ = some (.int .i64 0) := (blk_cell BK138.out 2).trans rfl; have hcz24_3 : w22.cell? ⟨gb138, 3, none⟩ = some (.int .i64 0) := (blk_cell BK138.out 3).trans rfl; have hcz24_4 : w22.cell? ⟨gb138, 4, none⟩ = some (.string (⟨#[]⟩ : ByteArray)) := (blk_cell BK138.out 4).trans rfl; have hcz24_5 : w22.cell? ⟨gb138, 5, none⟩ = some (.int .i64 0) := (blk_cell BK138.out 5).trans rfl; have hcz24_6 : w22.cell? ⟨gb138, 6, none⟩ = some (.int .i64 0) := (blk_cell BK138.out 6).trans rfl; have hfz24_0 := blk_frozen BK138.out 0; have hfz24_1 := blk_frozen BK138.out 1; have hfz24_2 := blk_frozen BK138.out 2; have hfz24_3 := blk_frozen BK138.out 3; have hfz24_4 := blk_frozen BK138.out 4; have hfz24_5 := blk_frozen BK138.out 5; have hfz24_6 := blk_frozen BK138.out 6; have hcz25_0 : w22.cell? ⟨gb124, 0, none⟩ = some (.int .i64 0) := (blk_cell BK124.out 0).trans rfl; have hcz25_1 : w22.cell? ⟨gb124, 1, none⟩ = some (.int .i64 0) := (blk_cell BK124.out 1).trans rfl; have hcz25_2 : w22.cell? ⟨gb124, 2, none⟩ = some (.int .i64 0) := (blk_cell BK124.out 2).trans rfl; have hcz25_3 : w22.cell? ⟨gb124, 3, none⟩ = some (.int .i64 0) := (blk_cell BK124.out 3).trans rfl; have hcz25_4 : w22.cell? ⟨gb124, 4, none⟩ = some (.string (⟨#[]⟩ : ByteArray)) := (blk_cell BK124.out 4).trans rfl; have hcz25_5 : w22.cell? ⟨gb124, 5, none⟩ = some (.int .i64 0) := (blk_cell BK124.out 5).trans rfl; have hcz25_6 : w22.cell? ⟨gb124, 6, none⟩ = some (.int .i64 0) := (blk_cell BK124.out 6).trans rfl; have hfz25_0 := blk_frozen BK124.out 0; have hfz25_1 := blk_frozen BK124.out 1; have hfz25_2 := blk_frozen BK124.out 2; have hfz25_3 := blk_frozen BK124.out 3; have hfz25_4 := blk_frozen BK124.out 4; have hfz25_5 := blk_frozen BK124.out 5; have hfz25_6 := blk_frozen BK124.out 6))
     refine bodyPost_ret (results_ct rfl _ _ gb124 29 #[.int .i64 0, .int .i64 0, .int .i64 0, .int .i64 0, .string (⟨#[]⟩ : ByteArray), .int .i64 0, .int .i64 0] (0, 0) _ rfl (by (with_reducible repeat (first | refine blk_drewN ?_ _ | refine blk_drew ?_ | refine blk_alloc ?_ _)); refine blk_put (cs := #[.int .i64 0, .int .i64 0, .int .i64 0, .int .i64 0, .string (⟨#[]⟩ : ByteArray), .int .i64 0, .int .i64 0]) ?_ 6 _ rfl; (with_reducible repeat (first | refine blk_drewN ?_ _ | refine blk_drew ?_ | refine blk_alloc ?_ _)); refine blk_put (cs := #[.int .i64 0, .int .i64 0, .int .i64 0, .int .i64 0, .string (⟨#[]⟩ : ByteArray), .int .i64 0, .int .i64 0]) ?_ 5 _ rfl; (with_reducible repeat (first | refine blk_drewN ?_ _ | refine blk_drew ?_ | refine blk_alloc ?_ _)); refine blk_put (cs := #[.int .i64 0, .int .i64 0, .int .i64 0, .int .i64 0, .string (⟨#[]⟩ : ByteArray), .int .i64 0, .int .i64 0]) ?_ 4 _ rfl; (with_reducible repeat (first | refine blk_drewN ?_ _ | refine blk_drew ?_ | refine blk_alloc ?_ _)); refine blk_put (cs := #[.int .i64 0, .int .i64 0, .int .i64 0, .int .i64 0, .string (⟨#[]⟩ : ByteArray), .int .i64 0, .int .i64 0]) ?_ 3 _ rfl; (with_reducible repeat (first | refine blk_drewN ?_ _ | refine blk_drew ?_ | refine blk_alloc ?_ _)); refine blk_put (cs := #[.int .i64 0, .int .i64 0, .int .i64 0, .int .i64 0, .string (⟨#[]⟩ : ByteArray), .int .i64 0, .int .i64 0]) ?_ 2 _ rfl; (with_reducible repeat (first | refine blk_drewN ?_ _ | refine blk_drew ?_ | refine blk_alloc ?_ _)); refine blk_put (cs := #[.int .i64 0, .int .i64 0, .int .i64 0, .int .i64 0, .string (⟨#[]⟩ : ByteArray), .int .i64 0, .int .i64 0]) ?_ 1 _ rfl; (with_reducible repeat (first | refine blk_drewN ?_ _ | refine blk_drew ?_ | refine blk_alloc ?_ _)); refine blk_put (cs := #[.int .i64 0, .int .i64 0, .int .i64 0, .int .i64 0, .string (⟨#[]⟩ : ByteArray), .int .i64 0, .int .i64 0]) ?_ 0 _ rfl; (with_reducible repeat (first | refine blk_drewN ?_ _ | refine blk_drew ?_ | refine blk_alloc ?_ _)); refine blk_far ?_ NB124_138.out _; (with_reducible repeat (first | refine blk_drewN ?_ _ | refine blk_drew ?_ | refine blk_alloc ?_ _)); refine blk_far ?_ NB124_138.out _; (with_reducible repeat (first | refine blk_drewN ?_ _ | refine blk_drew ?_ | refine blk_alloc ?_ _)); refine blk_far ?_ NB124_138.out _; (with_reducible repeat (first | refine blk_drewN ?_ _ | refine blk_drew ?_ | refine blk_alloc ?_ _)); refine blk_far ?_ NB124_138.out _; (with_reducible repeat (first | refine blk_drewN ?_ _ | refine blk_drew ?_ | refine blk_alloc ?_ _)); refine blk_far ?_ NB124_138.out _; (with_reducible repeat (first | refine blk_drewN ?_ _ | refine blk_drew ?_ | refine blk_alloc ?_ _)); refine blk_far ?_ NB124_138.out _; (with_reducible repeat (first | refine blk_drewN ?_ _ | refine blk_drew ?_ | refine blk_alloc ?_ _)); refine blk_far ?_ NB124_138.out _; (with_reducible repeat (first | refine blk_drewN ?_ _ | refine blk_drew ?_ | refine blk_alloc ?_ _)); exact BK124.out) Tryd.underlying29 rfl (by kernel_rfl)) rfl ?_
     exact ⟨by first | rfl | (simp [errW_none, errW_some] <;> rfl) | (simp [*, errW_none, errW_some] <;> rfl), by repeat (first | (with_reducible first | exact HB.out | apply below_alloc | apply pw_below_drewN | apply below_drew1 | refine below_set ?_ GE124.out | refine below_set ?_ GE138.out) | exact HB.out)⟩
end Go.Proofs.YtlmdhpfggobogaaDoor.G

namespace Go.Proofs.YtlmdhpfggobogaaDoor.G
open Go.RowKit Go.Proofs.YtlmdhpfggobogaaDoorW.PrintWords Go.Proofs.YtlmdhpfggobogaaDoorW.PrintLast Go.Proofs.YtlmdhpfggobogaaDoorW.PrintMore
attribute [local go_sem] max2_int min2_int max_two min_two max_three min_three max_four min_four   -- for this text's walks alone
set_option linter.unusedVariables false
set_option linter.unusedSimpArgs false
attribute [local go_sem high] eqA29
def barrowlaw24_awake.f (k : Nat)  : Option (Bool) := (script_ParseOp.f k (⟨#[115, 101, 116, 32, 48, 32, 50, 32, 84, 69, 65, 45, 49, 32, 53]⟩ : ByteArray)).bind fun bt139 => (if bt139.2.2.2.2.2.2.2 = 0 then (if (bt139.1 == 1 && (bt139.2.1 == 0 && (bt139.2.2.1 == 2 && (bt139.2.2.2.1 == 0 && (bt139.2.2.2.2.1.toList == ([84, 69, 65, 45, 49] : List UInt8) && (bt139.2.2.2.2.2.1 == 5 && (bt139.2.2.2.2.2.2.1 == 0))))))) = true then ((script_PrintOp.f bt139.1 bt139.2.1 bt139.2.2.1 bt139.2.2.2.1 bt139.2.2.2.2.1 bt139.2.2.2.2.2.1 bt139.2.2.2.2.2.2.1).bind fun t148 => (some (t148.toList == ([115, 101, 116, 32, 48, 32, 50, 32, 84, 69, 65, 45, 49, 32, 53] : List UInt8)))) else (some false)) else (some false))
set_option maxHeartbeats 8000000 in
set_option maxRecDepth 100000 in
theorem barrowlaw24_awake.calls (k : Nat)  (r : Bool) (w : World) (hTab : Aside0 (Tab w)) (hTabE : Aside0 (TabE w)) (h : barrowlaw24_awake.f k  = some r) :
  Calls Tryd.prog 16 #[] w fun e w' => e = .returned (.bool r) ∧ Below w.heap.size w w' := by
 have hu29 := Tryd.underlying29
 have HB := Aside0.mk (Below.refl w.heap.size w)
 have H : ((script_ParseOp.f k (⟨#[115, 101, 116, 32, 48, 32, 50, 32, 84, 69, 65, 45, 49, 32, 53]⟩ : ByteArray)).bind fun bt139 => (if bt139.2.2.2.2.2.2.2 = 0 then (if (bt139.1 == 1 && (bt139.2.1 == 0 && (bt139.2.2.1 == 2 && (bt139.2.2.2.1 == 0 && (bt139.2.2.2.2.1.toList == ([84, 69, 65, 45, 49] : List UInt8) && (bt139.2.2.2.2.2.1 == 5 && (bt139.2.2.2.2.2.2.1 == 0))))))) = true then ((script_PrintOp.f bt139.1 bt139.2.1 bt139.2.2.1 bt139.2.2.2.1 bt139.2.2.2.2.1 bt139.2.2.2.2.2.1 bt139.2.2.2.2.2.2.1).bind fun t148 => (some (t148.toList == ([115, 101, 116, 32, 48, 32, 50, 32, 84, 69, 65, 45, 49, 32, 53] : List UInt8)))) else (some false)) else (some false))) = some r := h
 clear h
 replace H := Option.bind_eq_some_iff.mp H
 obtain ⟨⟨t139, t140, t141, t142, t143, t144, t145, t146⟩, A10, H⟩ := H
 replace H : (if t146 = 0 then (if (t139 == 1 && (t140 == 0 && (t141 == 2 && (t142 == 0 && (t143.toList == ([84, 69, 65, 45, 49] : List UInt8) && (t144 == 5 && (t145 == 0))))))) = true then ((script_PrintOp.f t139 t140 t141 t142 t143 t144 t145).bind fun t148 => (some (t148.toList == ([115, 101, 116, 32, 48, 32, 50, 32, 84, 69, 65, 45, 49, 32, 53] : List UInt8)))) else (some false)) else (some false)) = some r := H
 have A1 := Aside0.mk A10
 clear A10
 by_cases c2 : t146 = 0
 ·rw [if_pos c2] at H
  have c2b0 : (t146 == 0) = true := beq_iff_eq.mpr c2
  have c2b1 : (t146 != 0) = false := bne_eq_false_iff_eq.mpr c2
  clear c2
  by_cases c3 : (t139 == 1 && (t140 == 0 && (t141 == 2 && (t142 == 0 && (t143.toList == ([84, 69, 65, 45, 49] : List UInt8) && (t144 == 5 && (t145 == 0))))))) = true
  ·rw [if_pos c3] at H
   have c3b0 : (t139 == 1 && (t140 == 0 && (t141 == 2 && (t142 == 0 && (t143.toList == ([84, 69, 65, 45, 49] : List UInt8) && (t144 == 5 && (t145 == 0))))))) = true := c3
   (try (have c3b1 : decide (t139 = 1 && (t140 == 0 && (t141 == 2 && (t142 == 0 && (t143.toList == ([84, 69, 65, 45, 49] : List UInt8) && (t144 == 5 && (t145 == 0))))))) = true := by simpa using c3))
   (try (have c3b2 : (t139 == 1 && (t140 == 0 && (t141 == 2 && (t142 == 0 && (t143.toList == ([84, 69, 65, 45, 49] : List UInt8) && (t144 == 5 && (t145 == 0))))))) = true := by simpa using c3))
   clear c3
   replace H := Option.bind_eq_some_iff.mp H
   obtain ⟨t148, A40, H⟩ := H
   replace H : (some (t148.toList == ([115, 101, 116, 32, 48, 32, 50, 32, 84, 69, 65, 45, 49, 32, 53] : List UInt8))) = some r := H
   have A4 := Aside0.mk A40
   clear A40
   obtain rfl := Option.some.inj H
   go_enter Tryd.func16, Tryd.ntmps16
   go_wp2_with (first | ((with_reducible refine gate_callee (f := 17) rfl ?_); refine goesL_ (some 4) rfl rfl Tryd.func17 (by kernel_rfl) rfl #[.string (⟨#[115, 101, 116, 32, 48, 32, 50, 32, 84, 69, 65, 45, 49, 32, 53]⟩ : ByteArray)] rfl (by (try simp only [List.map_toArray, List.map_cons, List.map_nil]); first | done | rfl | (simp only [List.length_drop, List.length_take]; rfl)) ?_; (with_reducible refine (script_ParseOp.calls k (⟨#[115, 101, 116, 32, 48, 32, 50, 32, 84, 69, 65, 45, 49, 32, 53]⟩ : ByteArray) t139 t140 t141 t142 t143 t144 t145 t146 _ ?tab1_ ?tab2_ A1.out).mono ?_); (case tab1_ => exact tab_keep hTab (by repeat (first | (with_reducible first | exact HB.out | apply below_alloc | apply pw_below_drewN | apply below_drew1) | (with_reducible refine below_set ?_ GE147.out) | exact HB.out))); (case tab2_ => exact tabE_keep hTabE (by repeat (first | (with_reducible first | exact HB.out | apply below_alloc | apply pw_below_drewN | apply below_drew1) | (with_reducible refine below_set ?_ GE147.out) | exact HB.out))); rintro e w5 ⟨rfl, hb⟩; refine ⟨_, rfl, ?_⟩; have n0_ := Aside0.mk (below_step (by repeat (first | (with_reducible first | exact HB.out | apply below_alloc | apply pw_below_drewN | apply below_drew1) | exact HB.out)) hb); clear HB; have HB := n0_; clear n0_; (try clear hb); (try clear hb2); (try clear hk); (try clear hi)) | ((with_reducible refine gate_dst (N := 1) rfl ?_); refine box_event ?hg (N := 1) ?hd (cs := #[.int .i64 0, .int .i64 0, .int .i64 0, .int .i64 0, .string (⟨#[]⟩ : ByteArray), .int .i64 0, .int .i64 0]) (t := 29) ?hr ?_; (case hd => rfl); (case hg => rfl); (case hr => first | (go_simp; done) | (go_simp; rfl)); intro gb147 hg w6 hbox hb; have n0_ := Aside0.mk (below_step (by repeat (first | (with_reducible first | exact HB.out | apply below_alloc | apply pw_below_drewN | apply below_drew1) | exact HB.out)) hb); have n1_ := Aside0.mk (hbox); have n2_ := Aside0.mk ((by rw [hg]; exact (below_size (by repeat (first | (with_reducible first | exact HB.out | apply below_alloc | apply pw_below_drewN | apply below_drew1) | exact HB.out))) : w.heap.size ≤ gb147)); have n3_ := Aside0.mk ((by rw [hg]; exact (below_size (by repeat (first | (with_reducible first | exact HB.out | apply below_alloc | apply pw_below_drewN | apply below_drew1) | exact HB.out))) : w.heap.size ≤ gb147)); clear HB; have HB := n0_; have BK147 := n1_; have GW147 := n2_; have GE147 := n3_; clear n0_ n1_ n2_ n3_; clear hb hbox hg; have hcz7_0 : w6.cell? ⟨gb147, 0, none⟩ = some (.int .i64 0) := (blk_cell BK147.out 0).trans rfl; have hcz7_1 : w6.cell? ⟨gb147, 1, none⟩ = some (.int .i64 0) := (blk_cell BK147.out 1).trans rfl; have hcz7_2 : w6.cell? ⟨gb147, 2, none⟩ = some (.int .i64 0) := (blk_cell BK147.out 2).trans rfl; have hcz7_3 : w6.cell? ⟨gb147, 3, none⟩ = some (.int .i64 0) := (blk_cell BK147.out 3).trans rfl; have hcz7_4 : w6.cell? ⟨gb147, 4, none⟩ = some (.string (⟨#[]⟩ : ByteArray)) := (blk_cell BK147.out 4).trans rfl; have hcz7_5 : w6.cell? ⟨gb147, 5, none⟩ = some (.int .i64 0) := (blk_cell BK147.out 5).trans rfl; have hcz7_6 : w6.cell? ⟨gb147, 6, none⟩ = some (.int .i64 0) := (blk_cell BK147.out 6).trans rfl; have hfz7_0 := blk_frozen BK147.out 0; have hfz7_1 := blk_frozen BK147.out 1; have hfz7_2 := blk_frozen BK147.out 2; have hfz7_3 := blk_frozen BK147.out 3; have hfz7_4 := blk_frozen BK147.out 4; have hfz7_5 := blk_frozen BK147.out 5; have hfz7_6 := blk_frozen BK147.out 6) | (go_at_call 19; (with_reducible refine (script_PrintOp.calls t139 t140 t141 t142 t143 t144 t145 t148 _ ?tab3_ A4.out).mono ?_); (case tab3_ => exact tab_keep hTab (by repeat (first | (with_reducible first | exact HB.out | apply below_alloc | apply pw_below_drewN | apply below_drew1) | (with_reducible refine below_set ?_ GE147.out) | exact HB.out))); rintro e w8 ⟨rfl, hb⟩; have n0_ := Aside0.mk (blk_below (g := gb147) (o := .cells #[.int .i64 t139, .int .i64 t140, .int .i64 t141, .int .i64 t142, .string t143, .int .i64 t144, .int .i64 t145] 29 (0, 0)) (by (with_reducible repeat (first | refine blk_drewN ?_ _ | refine blk_drew ?_ | refine blk_alloc ?_ _)); refine blk_put (cs := #[.int .i64 t139, .int .i64 t140, .int .i64 t141, .int .i64 t142, .string t143, .int .i64 t144, .int .i64 0]) ?_ 6 _ rfl; (with_reducible repeat (first | refine blk_drewN ?_ _ | refine blk_drew ?_ | refine blk_alloc ?_ _)); refine blk_put (cs := #[.int .i64 t139, .int .i64 t140, .int .i64 t141, .int .i64 t142, .string t143, .int .i64 0, .int .i64 0]) ?_ 5 _ rfl; (with_reducible repeat (first | refine blk_drewN ?_ _ | refine blk_drew ?_ | refine blk_alloc ?_ _)); refine blk_put (cs := #[.int .i64 t139, .int .i64 t140, .int .i64 t141, .int .i64 t142, .string (⟨#[]⟩ : ByteArray), .int .i64 0, .int .i64 0]) ?_ 4 _ rfl; (with_reducible repeat (first | refine blk_drewN ?_ _ | refine blk_drew ?_ | refine blk_alloc ?_ _)); refine blk_put (cs := #[.int .i64 t139, .int .i64 t140, .int .i64 t141, .int .i64 0, .string (⟨#[]⟩ : ByteArray), .int .i64 0, .int .i64 0]) ?_ 3 _ rfl; (with_reducible repeat (first | refine blk_drewN ?_ _ | refine blk_drew ?_ | refine blk_alloc ?_ _)); refine blk_put (cs := #[.int .i64 t139, .int .i64 t140, .int .i64 0, .int .i64 0, .string (⟨#[]⟩ : ByteArray), .int .i64 0, .int .i64 0]) ?_ 2 _ rfl; (with_reducible repeat (first | refine blk_drewN ?_ _ | refine blk_drew ?_ | refine blk_alloc ?_ _)); refine blk_put (cs := #[.int .i64 t139, .int .i64 0, .int .i64 0, .int .i64 0, .string (⟨#[]⟩ : ByteArray), .int .i64 0, .int .i64 0]) ?_ 1 _ rfl; (with_reducible repeat (first | refine blk_drewN ?_ _ | refine blk_drew ?_ | refine blk_alloc ?_ _)); refine blk_put (cs := #[.int .i64 0, .int .i64 0, .int .i64 0, .int .i64 0, .string (⟨#[]⟩ : ByteArray), .int .i64 0, .int .i64 0]) ?_ 0 _ rfl; (with_reducible repeat (first | refine blk_drewN ?_ _ | refine blk_drew ?_ | refine blk_alloc ?_ _)); exact BK147.out) hb); have n1_ := Aside0.mk (below_step (by repeat (first | (with_reducible first | exact HB.out | apply below_alloc | apply pw_below_drewN | apply below_drew1 | refine below_set ?_ GE147.out) | exact HB.out)) hb); clear BK147; clear HB; have BK147 := n0_; have HB := n1_; clear n0_ n1_; (try clear hb); (try clear hb2); (try clear hk); (try clear hi)))
   go_ret
   exact ⟨by first | rfl | (simp [errW_none, errW_some] <;> rfl) | (simp [*, errW_none, errW_some] <;> rfl), by repeat (first | (with_reducible first | exact HB.out | apply below_alloc | apply pw_below_drewN | apply below_drew1 | refine below_set ?_ GE147.out) | exact HB.out)⟩
  ·rw [if_neg c3] at H
   have c3b0 : (t139 == 1 && (t140 == 0 && (t141 == 2 && (t142 == 0 && (t143.toList == ([84, 69, 65, 45, 49] : List UInt8) && (t144 == 5 && (t145 == 0))))))) = false := by simpa using c3
   (try (have c3b1 : decide (t139 = 1 && (t140 == 0 && (t141 == 2 && (t142 == 0 && (t143.toList == ([84, 69, 65, 45, 49] : List UInt8) && (t144 == 5 && (t145 == 0))))))) = false := by simpa using c3))
   (try (have c3b2 : (t139 == 1 && (t140 == 0 && (t141 == 2 && (t142 == 0 && (t143.toList == ([84, 69, 65, 45, 49] : List UInt8) && (t144 == 5 && (t145 == 0))))))) = false := by simpa using c3))
   (try (have c3b3 : ¬ (t139 = 1 && (t140 == 0 && (t141 == 2 && (t142 == 0 && (t143.toList == ([84, 69, 65, 45, 49] : List UInt8) && (t144 == 5 && (t145 == 0))))))) := by simpa using c3))
   clear c3
   obtain rfl := Option.some.inj H
   go_enter Tryd.func16, Tryd.ntmps16
   go_wp2_with (first | ((with_reducible refine gate_callee (f := 17) rfl ?_); refine goesL_ (some 4) rfl rfl Tryd.func17 (by kernel_rfl) rfl #[.string (⟨#[115, 101, 116, 32, 48, 32, 50, 32, 84, 69, 65, 45, 49, 32, 53]⟩ : ByteArray)] rfl (by (try simp only [List.map_toArray, List.map_cons, List.map_nil]); first | done | rfl | (simp only [List.length_drop, List.length_take]; rfl)) ?_; (with_reducible refine (script_ParseOp.calls k (⟨#[115, 101, 116, 32, 48, 32, 50, 32, 84, 69, 65, 45, 49, 32, 53]⟩ : ByteArray) t139 t140 t141 t142 t143 t144 t145 t146 _ ?tab1_ ?tab2_ A1.out).mono ?_); (case tab1_ => exact tab_keep hTab (by repeat (first | (with_reducible first | exact HB.out | apply below_alloc | apply pw_below_drewN | apply below_drew1) | (with_reducible refine below_set ?_ GE147.out) | exact HB.out))); (case tab2_ => exact tabE_keep hTabE (by repeat (first | (with_reducible first | exact HB.out | apply below_alloc | apply pw_below_drewN | apply below_drew1) | (with_reducible refine below_set ?_ GE147.out) | exact HB.out))); rintro e w9 ⟨rfl, hb⟩; refine ⟨_, rfl, ?_⟩; have n0_ := Aside0.mk (below_step (by repeat (first | (with_reducible first | exact HB.out | apply below_alloc | apply pw_below_drewN | apply below_drew1) | exact HB.out)) hb); clear HB; have HB := n0_; clear n0_; (try clear hb); (try clear hb2); (try clear hk); (try clear hi)) | ((with_reducible refine gate_dst (N := 1) rfl ?_); refine box_event ?hg (N := 1) ?hd (cs := #[.int .i64 0, .int .i64 0, .int .i64 0, .int .i64 0, .string (⟨#[]⟩ : ByteArray), .int .i64 0, .int .i64 0]) (t := 29) ?hr ?_; (case hd => rfl); (case hg => rfl); (case hr => first | (go_simp; done) | (go_simp; rfl)); intro gb147 hg w10 hbox hb; have n0_ := Aside0.mk (below_step (by repeat (first | (with_reducible first | exact HB.out | apply below_alloc | apply pw_below_drewN | apply below_drew1) | exact HB.out)) hb); have n1_ := Aside0.mk (hbox); have n2_ := Aside0.mk ((by rw [hg]; exact (below_size (by repeat (first | (with_reducible first | exact HB.out | apply below_alloc | apply pw_below_drewN | apply below_drew1) | exact HB.out))) : w.heap.size ≤ gb147)); have n3_ := Aside0.mk ((by rw [hg]; exact (below_size (by repeat (first | (with_reducible first | exact HB.out | apply below_alloc | apply pw_below_drewN | apply below_drew1) | exact HB.out))) : w.heap.size ≤ gb147)); clear HB; have HB := n0_; have BK147 := n1_; have GW147 := n2_; have GE147 := n3_; clear n0_ n1_ n2_ n3_; clear hb hbox hg; have hcz11_0 : w10.cell? ⟨gb147, 0, none⟩ = some (.int .i64 0) := (blk_cell BK147.out 0).trans rfl; have hcz11_1 : w10.cell? ⟨gb147, 1, none⟩ = some (.int .i64 0) := (blk_cell BK147.out 1).trans rfl; have hcz11_2 : w10.cell? ⟨gb147, 2, none⟩ = some (.int .i64 0) := (blk_cell BK147.out 2).trans rfl; have hcz11_3 : w10.cell? ⟨gb147, 3, none⟩ = some (.int .i64 0) := (blk_cell BK147.out 3).trans rfl; have hcz11_4 : w10.cell? ⟨gb147, 4, none⟩ = some (.string (⟨#[]⟩ : ByteArray)) := (blk_cell BK147.out 4).trans rfl; have hcz11_5 : w10.cell? ⟨gb147, 5, none⟩ = some (.int .i64 0) := (blk_cell BK147.out 5).trans rfl; have hcz11_6 : w10.cell? ⟨gb147, 6, none⟩ = some (.int .i64 0) := (blk_cell BK147.out 6).trans rfl; have hfz11_0 := blk_frozen BK147.out 0; have hfz11_1 := blk_frozen BK147.out 1; have hfz11_2 := blk_frozen BK147.out 2; have hfz11_3 := blk_frozen BK147.out 3; have hfz11_4 := blk_frozen BK147.out 4; have hfz11_5 := blk_frozen BK147.out 5; have hfz11_6 := blk_frozen BK147.out 6))
   go_ret
   exact ⟨by first | rfl | (simp [errW_none, errW_some] <;> rfl) | (simp [*, errW_none, errW_some] <;> rfl), by repeat (first | (with_reducible first | exact HB.out | apply below_alloc | apply pw_below_drewN | apply below_drew1 | refine below_set ?_ GE147.out) | exact HB.out)⟩
 ·rw [if_neg c2] at H
  have c2b0 : (t146 == 0) = false := beq_eq_false_iff_ne.mpr c2
  have c2b1 : (t146 != 0) = true := bne_iff_ne.mpr c2
  obtain rfl := Option.some.inj H
  go_enter Tryd.func16, Tryd.ntmps16
  go_wp2_with (first | ((with_reducible refine gate_callee (f := 17) rfl ?_); refine goesL_ (some 4) rfl rfl Tryd.func17 (by kernel_rfl) rfl #[.string (⟨#[115, 101, 116, 32, 48, 32, 50, 32, 84, 69, 65, 45, 49, 32, 53]⟩ : ByteArray)] rfl (by (try simp only [List.map_toArray, List.map_cons, List.map_nil]); first | done | rfl | (simp only [List.length_drop, List.length_take]; rfl)) ?_; (with_reducible refine (script_ParseOp.calls k (⟨#[115, 101, 116, 32, 48, 32, 50, 32, 84, 69, 65, 45, 49, 32, 53]⟩ : ByteArray) t139 t140 t141 t142 t143 t144 t145 t146 _ ?tab1_ ?tab2_ A1.out).mono ?_); (case tab1_ => exact tab_keep hTab (by repeat (first | (with_reducible first | exact HB.out | apply below_alloc | apply pw_below_drewN | apply below_drew1) | (with_reducible refine below_set ?_ GE147.out) | exact HB.out))); (case tab2_ => exact tabE_keep hTabE (by repeat (first | (with_reducible first | exact HB.out | apply below_alloc | apply pw_below_drewN | apply below_drew1) | (with_reducible refine below_set ?_ GE147.out) | exact HB.out))); rintro e w12 ⟨rfl, hb⟩; refine ⟨_, rfl, ?_⟩; have n0_ := Aside0.mk (below_step (by repeat (first | (with_reducible first | exact HB.out | apply below_alloc | apply pw_below_drewN | apply below_drew1) | exact HB.out)) hb); clear HB; have HB := n0_; clear n0_; (try clear hb); (try clear hb2); (try clear hk); (try clear hi)) | ((with_reducible refine gate_dst (N := 1) rfl ?_); refine box_event ?hg (N := 1) ?hd (cs := #[.int .i64 0, .int .i64 0, .int .i64 0, .int .i64 0, .string (⟨#[]⟩ : ByteArray), .int .i64 0, .int .i64 0]) (t := 29) ?hr ?_; (case hd => rfl); (case hg => rfl); (case hr => first | (go_simp; done) | (go_simp; rfl)); intro gb147 hg w13 hbox hb; have n0_ := Aside0.mk (below_step (by repeat (first | (with_reducible first | exact HB.out | apply below_alloc | apply pw_below_drewN | apply below_drew1) | exact HB.out)) hb); have n1_ := Aside0.mk (hbox); have n2_ := Aside0.mk ((by rw [hg]; exact (below_size (by repeat (first | (with_reducible first | exact HB.out | apply below_alloc | apply pw_below_drewN | apply below_drew1) | exact HB.out))) : w.heap.size ≤ gb147)); have n3_ := Aside0.mk ((by rw [hg]; exact (below_size (by repeat (first | (with_reducible first | exact HB.out | apply below_alloc | apply pw_below_drewN | apply below_drew1) | exact HB.out))) : w.heap.size ≤ gb147)); clear HB; have HB := n0_; have BK147 := n1_; have GW147 := n2_; have GE147 := n3_; clear n0_ n1_ n2_ n3_; clear hb hbox hg; have hcz14_0 : w13.cell? ⟨gb147, 0, none⟩ = some (.int .i64 0) := (blk_cell BK147.out 0).trans rfl; have hcz14_1 : w13.cell? ⟨gb147, 1, none⟩ = some (.int .i64 0) := (blk_cell BK147.out 1).trans rfl; have hcz14_2 : w13.cell? ⟨gb147, 2, none⟩ = some (.int .i64 0) := (blk_cell BK147.out 2).trans rfl; have hcz14_3 : w13.cell? ⟨gb147, 3, none⟩ = some (.int .i64 0) := (blk_cell BK147.out 3).trans rfl; have hcz14_4 : w13.cell? ⟨gb147, 4, none⟩ = some (.string (⟨#[]⟩ : ByteArray)) := (blk_cell BK147.out 4).trans rfl; have hcz14_5 : w13.cell? ⟨gb147, 5, none⟩ = some (.int .i64 0) := (blk_cell BK147.out 5).trans rfl; have hcz14_6 : w13.cell? ⟨gb147, 6, none⟩ = some (.int .i64 0) := (blk_cell BK147.out 6).trans rfl; have hfz14_0 := blk_frozen BK147.out 0; have hfz14_1 := blk_frozen BK147.out 1; have hfz14_2 := blk_frozen BK147.out 2; have hfz14_3 := blk_frozen BK147.out 3; have hfz14_4 := blk_frozen BK147.out 4; have hfz14_5 := blk_frozen BK147.out 5; have hfz14_6 := blk_frozen BK147.out 6))
  go_ret
  exact ⟨by first | rfl | (simp [errW_none, errW_some] <;> rfl) | (simp [*, errW_none, errW_some] <;> rfl), by repeat (first | (with_reducible first | exact HB.out | apply below_alloc | apply pw_below_drewN | apply below_drew1 | refine below_set ?_ GE147.out) | exact HB.out)⟩
end Go.Proofs.YtlmdhpfggobogaaDoor.G

namespace Go.Proofs.YtlmdhpfggobogaaDoor.Pure
open Go.RowKit Go.Proofs.YtlmdhpfggobogaaDoor.G Go.Proofs.YtlmdhpfggobogaaDoorW.PrintWords Go.Proofs.YtlmdhpfggobogaaDoorW.PrintLast
open Go.Proofs.YtlmdhpfggobogaaDoor.Dec (digs)
set_option linter.unusedVariables false
theorem digs_one' (n : Nat) (h : n < 10) : digs n = [48 + ((n : Nat) : Int)] := by
  rw [digs_step, if_pos (by omega), List.nil_append, Nat.mod_eq_of_lt h]
theorem numI_one' (n : Nat) (h : n < 10) : numI (n : Int) = [48 + ((n : Nat) : Int)] := by
  unfold numI
  rw [if_neg (by omega), Int.natAbs_natCast, digs_one' n h]
theorem itoaB_one (n : Nat) (h : n < 10) (s : ByteArray) (hs : bytesOf s = [48 + ((n : Nat) : Int)]) : itoaB (n : Int) = s :=
  bytesOf_inj (by rw [itoa_bytes, numI_one' n h, hs])
theorem rdNum_one (n : Nat) (h : n < 10) (s : ByteArray) (hs : bytesOf s = [48 + ((n : Nat) : Int)]) (hp : Lib.parseIntB 64 s.data.toList = .ok (n : Int)) (hz : s.size ≤ 281474976710656) : script_readNumber.f s = some ((n : Int), true) := by
  unfold script_readNumber.f rdNum
  rw [if_pos hz, hp]
  show some ((n : Int), (itoaB (n : Int)).toList == s.toList) = _
  rw [itoaB_one n h s hs, beq_self_eq_true]
def lineC : ByteArray := ⟨#[115, 101, 116, 32, 48, 32, 50, 32, 84, 69, 65, 45, 49, 32, 53]⟩
def teaC : ByteArray := ⟨#[84, 69, 65, 45, 49]⟩
def wordsC : List ByteArray := [⟨#[115, 101, 116]⟩, ⟨#[48]⟩, ⟨#[50]⟩, teaC, ⟨#[53]⟩]
theorem words_ex : Ev (fun k => script_words.f k lineC) (wordsC, true) :=
  Ev.of (k := 60) (fun k => script_words.mono _ k) (by decide +kernel)
theorem contains_ex : strings_Contains.f lineC ⟨#[10]⟩ = some false := by decide +kernel
theorem good_ex : goodI (bytesOf teaC) = true := by decide +kernel
theorem readSku_ex : Ev (fun k => script_readSku.f k teaC) (teaC, true) := by
  unfold script_readSku.f
  refine Ev.bind (good_ev teaC) ?_
  rw [good_ex]
  exact Ev.congr (fun _ => if_pos rfl) (Ev.now _)
theorem kind_ex : kindUpto ⟨#[115, 101, 116]⟩ 16 = 1 := by decide +kernel
theorem step_ex : Ev (fun k => script_step.f k wordsC) (1, 0, 2, 0, teaC, 5, 0, true) := by
  have e0 := rdNum_one 0 (by decide) ⟨#[48]⟩ rfl (by decide +kernel) (by decide)
  have e2 := rdNum_one 2 (by decide) ⟨#[50]⟩ rfl (by decide +kernel) (by decide)
  have e5 := rdNum_one 5 (by decide) ⟨#[53]⟩ rfl (by decide +kernel) (by decide)
  have hr : Ev (fun k => readAll k [114, 99, 115, 113] [⟨#[48]⟩, ⟨#[50]⟩, teaC, ⟨#[53]⟩] ⟨1, 0, 0, 0, ⟨#[]⟩, 0, 0⟩) (some ⟨1, 0, 2, 0, teaC, 5, 0⟩) := by
    have key : ∀ k, readAll k [114, 99, 115, 113] [⟨#[48]⟩, ⟨#[50]⟩, teaC, ⟨#[53]⟩] ⟨1, 0, 0, 0, ⟨#[]⟩, 0, 0⟩ = (script_readSku.f k teaC).bind fun r => if r.2 = true then some (some ⟨1, 0, 2, 0, r.1, 5, 0⟩) else some none := by
      intro k
      simp only [readAll]
      rw [if_neg (by decide), e0, Option.bind_some, if_pos rfl, if_neg (by decide), e2, Option.bind_some, if_pos rfl, if_pos trivial]
      congr 1
      funext r
      by_cases hr : r.2 = true
      · rw [if_pos hr, if_pos hr, if_neg (by decide), e5, Option.bind_some, if_pos rfl]
        rfl
      · rw [if_neg hr, if_neg hr]
    refine Ev.congr key (Ev.bind readSku_ex ?_)
    exact Ev.congr (fun _ => if_pos rfl) (Ev.now _)
  obtain ⟨K, hK⟩ := hr
  refine ⟨K, fun k hk => ?_⟩
  show stepC k _ _ = _
  unfold stepC
  rw [if_pos (by decide), kind_ex, if_pos (by decide +kernel), if_pos (by decide +kernel)]
  have h1 : readAll k [114, 99, 115, 113] [⟨#[48]⟩, ⟨#[50]⟩, teaC, ⟨#[53]⟩] ⟨1, 0, 0, 0, ⟨#[]⟩, 0, 0⟩ = some (some ⟨1, 0, 2, 0, teaC, 5, 0⟩) := hK k hk
  have e1 : bytesOf (shp 1).2 = [114, 99, 115, 113] := rfl
  rw [e1]
  show Option.map (stepEnd 1) (readAll k [114, 99, 115, 113] [⟨#[48]⟩, ⟨#[50]⟩, teaC, ⟨#[53]⟩] ⟨1, 0, 0, 0, ⟨#[]⟩, 0, 0⟩) = _
  rw [h1]
  rfl
theorem line_ex : lineI 1 0 2 0 teaC 5 0 = bytesOf lineC := by
  show [115, 101, 116] ++ ([114, 99, 115, 113].flatMap (pieceI 1 0 2 0 teaC 5 0)) = _
  have p1 : pieceI 1 0 2 0 teaC 5 0 114 = [32, 48] := by unfold pieceI; rw [if_neg (by decide)]; show 32 :: numI ((0 : Nat) : Int) = _; rw [numI_one' 0 (by decide)]; rfl
  have p2 : pieceI 1 0 2 0 teaC 5 0 99 = [32, 50] := by unfold pieceI; rw [if_neg (by decide)]; show 32 :: numI ((2 : Nat) : Int) = _; rw [numI_one' 2 (by decide)]; rfl
  have p3 : pieceI 1 0 2 0 teaC 5 0 115 = [32, 84, 69, 65, 45, 49] := by unfold pieceI; rw [if_pos rfl]; unfold skuI; rw [if_pos good_ex]; rfl
  have p4 : pieceI 1 0 2 0 teaC 5 0 113 = [32, 53] := by unfold pieceI; rw [if_neg (by decide)]; show 32 :: numI ((5 : Nat) : Int) = _; rw [numI_one' 5 (by decide)]; rfl
  simp only [List.flatMap_cons, List.flatMap_nil, p1, p2, p3, p4]
  decide +kernel
theorem printOp_ex : script_PrintOp.f 1 0 2 0 teaC 5 0 = some lineC := by
  unfold script_PrintOp.f
  rw [if_pos (by decide), line_ex, str_bytesOf]
theorem awake_ev : Ev (fun k => barrowlaw24_awake.f k) true := by
  have hp : Ev (fun k => script_ParseOp.f k lineC) (1, 0, 2, 0, teaC, 5, 0, 0) := by
    unfold script_ParseOp.f
    refine Ev.bind words_ex ?_
    refine Ev.congr (f := fun k => script_ParseOp.j0 k wordsC false) (fun k => ?_) ?_
    · rw [contains_ex, Option.bind_some, if_neg (by decide), if_pos rfl]; rfl
    · refine Ev.step (f := fun k => (script_step.f k wordsC).bind fun bt130 => (if bt130.2.2.2.2.2.2.2 = true then (some (bt130.1, bt130.2.1, bt130.2.2.1, bt130.2.2.2.1, bt130.2.2.2.2.1, bt130.2.2.2.2.2.1, bt130.2.2.2.2.2.2.1, 0)) else (some (0, 0, 0, 0, (⟨#[]⟩ : ByteArray), 0, 0, 17)))) (fun k => by simp only [script_ParseOp.j0]; rw [if_neg (by decide)]) ?_
      refine Ev.bind step_ex ?_
      exact Ev.congr (fun _ => if_pos rfl) (Ev.now _)
  unfold barrowlaw24_awake.f
  refine Ev.bind hp ?_
  refine Ev.congr (f := fun _ => some true) (fun k => ?_) (Ev.now _)
  rw [if_pos rfl, if_pos (by decide +kernel)]
  show (script_PrintOp.f 1 0 2 0 teaC 5 0).bind _ = _
  rw [printOp_ex, Option.bind_some]
  decide +kernel
end Go.Proofs.YtlmdhpfggobogaaDoor.Pure

namespace Go.Proofs.YtlmdhpfggobogaaDoor.Pure
open Go.Proofs.YtlmdhpfggobogaaDoor.G hiding bytesOf_length
open Go.RowKit Go.Proofs.YtlmdhpfggobogaaDoorW.PrintWords Go.Proofs.YtlmdhpfggobogaaDoorW.PrintLast
open Go.Proofs.YtlmdhpfggobogaaDoor.Dec (digs val val_digs digs_dig digs_ne)
set_option linter.unusedVariables false
def sep (ws : List (List Int)) : List Int := ws.flatMap fun w => 32 :: w
theorem checkGo_chars : ∀ (l : List Int) (pm : Bool) (i : Int), (checkGo pm i l).2 = 0 → ∀ c ∈ l, letterI c = true ∨ digitI c = true ∨ isMarkI c = true
  | [], _, _, _, c, hc => by cases hc
  | x :: t, pm, i, h, c, hc => by
    unfold checkGo at h
    by_cases h1 : (letterI x || digitI x) = true
    · rw [if_pos h1] at h
      rcases List.mem_cons.1 hc with rfl | hc
      · simp only [Bool.or_eq_true] at h1; exact h1.elim .inl (fun e => .inr (.inl e))
      · exact checkGo_chars t _ _ h c hc
    · rw [if_neg h1] at h
      by_cases h2 : (isMarkI x && !pm && !t.isEmpty) = true
      · rw [if_pos h2] at h
        rcases List.mem_cons.1 hc with rfl | hc
        · simp only [Bool.and_eq_true] at h2; exact .inr (.inr h2.1.1)
        · exact checkGo_chars t _ _ h c hc
      · rw [if_neg h2] at h
        exact absurd h (show ¬ (22 : Int) = 0 by decide)
def byteR (l : List Int) : Prop := ∀ c ∈ l, 0 ≤ c ∧ c ≤ 255
section
variable (a0 a1 a2 a3 : Int) (a4 : ByteArray) (a5 a6 : Int)
def wordI (c : Int) : List Int := if c = 115 then skuI (bytesOf a4) else numI (fldV a0 a1 a2 a3 a5 a6 c)
theorem line_sep : lineI a0 a1 a2 a3 a4 a5 a6 = bytesOf (shp a0).1 ++ sep ((bytesOf (shp a0).2).map (wordI a0 a1 a2 a3 a4 a5 a6)) := by
  unfold lineI sep
  rw [List.flatMap_map]
  rfl
end
theorem kind_known (k : Int) (h : 1 ≤ k ∧ k ≤ 16) : kindUpto (shp k).1 16 = k := by
  rcases kind_cases k with rfl | rfl | rfl | rfl | rfl | rfl | rfl | rfl | rfl | rfl | rfl | rfl | rfl | rfl | rfl | rfl | h1 | h1
  all_goals first | (decide +kernel) | omega
theorem kind_op : kindUpto opWord 16 = 0 := by decide +kernel
def lineO (o : S29) : List Int := lineI o.f0 o.f1 o.f2 o.f3 o.f4 o.f5 o.f6
def plO (o : S29) : S29 := plainO o.f0 o.f1 o.f2 o.f3 o.f4 o.f5 o.f6
end Go.Proofs.YtlmdhpfggobogaaDoor.Pure

namespace Go.Proofs.YtlmdhpfggobogaaDoor.Pure
open Go.Proofs.YtlmdhpfggobogaaDoor.G hiding bytesOf_length
open Go.RowKit Go.Proofs.YtlmdhpfggobogaaDoorW.PrintWords Go.Proofs.YtlmdhpfggobogaaDoorW.PrintLast
set_option linter.unusedVariables false
theorem plain_l0 (a0 a1 a2 a3 a4 a5 : Int) (l : List S29) (hl : l.length ≤ 1099511627776) : ∀ (d i : Nat) (acc : List S29), i + d = l.length → acc.length ≤ i →
    Ev (fun k => barrowlaw24_plain.l0 k l (l.length : Int) i a0 a1 a2 a3 a4 a5 acc) (a0, a1, a2, a3, a4, a5, acc ++ (l.drop i).map plO)
  | 0, i, acc, hd, ha => by
    rw [List.drop_eq_nil_of_le (by omega), List.map_nil, List.append_nil]
    refine Ev.step (f := fun _ => some (a0, a1, a2, a3, a4, a5, acc)) (fun k => ?_) (Ev.now _)
    simp only [barrowlaw24_plain.l0]
    rw [if_neg (by omega)]
  | d + 1, i, acc, hd, ha => by
    have hi : i < l.length := by omega
    have ih := plain_l0 a0 a1 a2 a3 a4 a5 l hl d (i + 1) (acc ++ [plO l[i]]) (by omega) (by rw [List.length_append, List.length_singleton]; omega)
    rw [List.drop_eq_getElem_cons hi, List.map_cons]
    have e : acc ++ plO l[i] :: (l.drop (i + 1)).map plO = acc ++ [plO l[i]] ++ (l.drop (i + 1)).map plO := by simp
    rw [e]
    refine Ev.step (fun k => ?_) ih
    simp only [barrowlaw24_plain.l0]
    rw [if_pos (by omega), if_pos (by omega), if_pos (by omega), rd29_at l i hi]
    show (some (tupO (plO l[i]))).bind _ = _
    rw [Option.bind_some, if_pos (by omega), w64_nat i (by omega)]
    rfl
theorem plain_ev (a0 a1 a2 a3 a4 a5 : Int) (l : List S29) (hl : l.length ≤ 1099511627776) : Ev (fun k => barrowlaw24_plain.f k a0 a1 a2 a3 a4 a5 l) (a0, a1, a2, a3, a4, a5, l.map plO) := by
  have := plain_l0 a0 a1 a2 a3 a4 a5 l hl l.length 0 [] (by omega) (by simp)
  rw [List.drop_zero, List.nil_append] at this
  exact this
end Go.Proofs.YtlmdhpfggobogaaDoor.Pure
