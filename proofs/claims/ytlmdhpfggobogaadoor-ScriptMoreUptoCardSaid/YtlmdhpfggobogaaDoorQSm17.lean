import Derived.Test.YtlmdhpfggobogaaDoorQSm16
import Derived.Laws.CopyOwn
import Derived.Laws.Tables
import Derived.Test.YtlmdhpfggobogaaDoorQSm5
namespace Go.Proofs.YtlmdhpfggobogaaDoor.G
open Go.RowKit Go.Proofs.YtlmdhpfggobogaaDoorW.PrintWords Go.Proofs.YtlmdhpfggobogaaDoorW.PrintLast Go.Proofs.YtlmdhpfggobogaaDoorW.PrintMore
set_option linter.unusedVariables false
section
variable {P : Program}
theorem results_c {fn : Func} {p : Tmp} {ty : TypeId} (h : fn.results = #[.cell p ty]) (tmps : Array Value) (w : World) (g : Nat) (t : TypeId) (cs : Array Value) (fr : Nat × Nat) (d : TypeDesc)
    (hp : tmps.getD p undef = .pointer (some ⟨g, 0, none⟩)) (hg : w.heap[g]? = some (.cells cs t fr))
    (hu : P.underlying ty = some d) (hd : (match d with | .struct _ | .array _ _ => true | _ => false) = true) (hi : (P.info? ty).map (·.size) = some cs.size) :
    (results fn tmps).run P w = .ok (.agg cs) w := by
  have hp' : tmps[p]?.getD undef = .pointer (some ⟨g, 0, none⟩) := by simpa using hp
  simp [results, h, hp', asAddr, run_loadVar_row w g t ty cs fr d hg hu hd hi]
end
def cellsA (o : S29) : Array Value := #[.int .i64 o.f0, .int .i64 o.f1, .int .i64 o.f2, .int .i64 o.f3, .string o.f4, .int .i64 o.f5, .int .i64 o.f6]
def plainL (a0 a1 a2 a3 : Int) (a4 : ByteArray) (a5 a6 : Int) (L : List Int) : S29 :=
  ⟨a0, if 114 ∈ L then a1 else 0, if 99 ∈ L then a2 else 0, if 116 ∈ L then a3 else 0, if 115 ∈ L then a4 else ⟨#[]⟩, if 113 ∈ L then a5 else 0, if 110 ∈ L then a6 else 0⟩
def plainO (a0 a1 a2 a3 : Int) (a4 : ByteArray) (a5 a6 : Int) : S29 := plainL a0 a1 a2 a3 a4 a5 a6 (bytesOf (shp a0).2)
def tupO (o : S29) : Int × Int × Int × Int × ByteArray × Int × Int := (o.f0, o.f1, o.f2, o.f3, o.f4, o.f5, o.f6)
def script_Plain.f (a0 a1 a2 a3 : Int) (a4 : ByteArray) (a5 a6 : Int) : Option (Int × Int × Int × Int × ByteArray × Int × Int) := some (tupO (plainO a0 a1 a2 a3 a4 a5 a6))
theorem plain_num (a0 a1 a2 a3 : Int) (a4 : ByteArray) (a5 a6 : Int) (L : List Int) (c : Int) (h : c = 114 ∨ c = 99 ∨ c = 116 ∨ c = 113 ∨ c = 110 ∨ c = 107) :
    (cellsA (plainL a0 a1 a2 a3 a4 a5 a6 L)).setIfInBounds (fldOff c) (.int .i64 (fldV a0 a1 a2 a3 a5 a6 c)) = cellsA (plainL a0 a1 a2 a3 a4 a5 a6 (L ++ [c])) := by
  rcases h with rfl | rfl | rfl | rfl | rfl | rfl <;> simp [cellsA, plainL, fldOff, fldV]
theorem plain_sku (a0 a1 a2 a3 : Int) (a4 : ByteArray) (a5 a6 : Int) (L : List Int) :
    (cellsA (plainL a0 a1 a2 a3 a4 a5 a6 L)).setIfInBounds 4 (.string a4) = cellsA (plainL a0 a1 a2 a3 a4 a5 a6 (L ++ [115])) := by
  simp [cellsA, plainL]
theorem st29at {ops : Array Oper} {rest : List Oper} {o : Oper} {a : Act} {Q : Exit → Act → World → Prop} {w : World} {g : Nat} {O C : Array Value} {x y : Operand} (hgd : o.guard = none)
  (ho : o.op = .store 29 x y) (hd : o.dst = none) (hx : a.eval x = .pointer (some ⟨g, 0, none⟩)) (hy : a.eval y = .agg C) (hg : w.heap[g]? = some (.cells O 29 (0, 0)))
  (hO : O.size = 7) (hC : C.size = 7) (h1 : C.all (·.oneCell') = true) (h : ∀ w2, w2.heap[g]? = some (.cells C 29 (0, 0)) → (∀ k o, w.heap[k]? = some o → k ≠ g → w2.heap[k]? = some o) → (∀ B w0, Below B w0 w → B ≤ g → Below B w0 w2) → wpList Tryd.prog ops Q rest a w2) :
  wpList Tryd.prog ops Q (o :: rest) a w :=
 wpList_store_rowTo hgd 29 x y ho hd g C hx hy 29 O hg (by rw [hC]; kernel_rfl) (by omega) h1 (h _ (setRow_heap w g O C 29 (0, 0) hg) (fun k o hk hne => (setRow_other w g k C hne).trans hk) (fun B w0 hb hB => below_setRow hb hB C))
set_option maxHeartbeats 4000000 in
set_option maxRecDepth 100000 in
theorem script_Plain.calls (a0 a1 a2 a3 : Int) (a4 : ByteArray) (a5 a6 : Int) (r1 r2 r3 r4 : Int) (r5 : ByteArray) (r6 r7 : Int) (w : World) (h : script_Plain.f a0 a1 a2 a3 a4 a5 a6 = some (r1, r2, r3, r4, r5, r6, r7)) :
    Calls Tryd.prog 20 #[.agg #[.int .i64 a0, .int .i64 a1, .int .i64 a2, .int .i64 a3, .string a4, .int .i64 a5, .int .i64 a6]] w fun e w' => e = .returned (.agg #[.int .i64 r1, .int .i64 r2, .int .i64 r3, .int .i64 r4, .string r5, .int .i64 r6, .int .i64 r7]) ∧ Below w.heap.size w w' := by
  have hR : (Value.agg #[.int .i64 r1, .int .i64 r2, .int .i64 r3, .int .i64 r4, .string r5, .int .i64 r6, .int .i64 r7]) = .agg (cellsA (plainO a0 a1 a2 a3 a4 a5 a6)) := by
    have h1 := Option.some.inj h
    simp only [tupO, Prod.mk.injEq] at h1
    obtain ⟨e1, e2, e3, e4, e5, e6, e7⟩ := h1
    rw [← e1, ← e2, ← e3, ← e4, ← e5, ← e6, ← e7]; rfl
  rw [hR]
  clear h hR
  have HS := Aside0.mk (shp_eq a0)
  obtain ⟨_, _, hl0, hw0, hf0⟩ := shapes a0
  have HL := Aside0.mk hl0
  have HFs := Aside0.mk hf0
  clear hl0 hw0 hf0
  obtain ⟨RES, hRES⟩ : ∃ R, plainO a0 a1 a2 a3 a4 a5 a6 = R := ⟨_, rfl⟩
  have HRES := Aside0.mk hRES
  rw [hRES]
  clear hRES
  obtain ⟨W0, hW0⟩ : ∃ W0, (shp a0).1 = W0 := ⟨_, rfl⟩
  obtain ⟨F0, hF0⟩ : ∃ F0, (shp a0).2 = F0 := ⟨_, rfl⟩
  have hWF : shp a0 = (W0, F0) := by rw [← hW0, ← hF0]
  rw [hWF] at HS HL HFs
  have HWF := Aside0.mk hWF
  clear hWF hW0 hF0
  have S1 : True := trivial
  have S2 : True := trivial
  have S3 : True := trivial
  have S4 : True := trivial
  have S5 : True := trivial
  have hfd : ∀ w : World, (Instr.field 74 (.agg #[.string W0, .string F0]) 1).run Tryd.prog w = .ok (.string F0) w := fun _ => by kernel_rfl
  go_enter Tryd.func20, Tryd.ntmps20
  go_wp2_with (first | (clear S1; (with_reducible refine gate_dst (N := 1) rfl ?_); refine box_event ?hg (N := 1) ?hd (cs := #[.int .i64 a0, .int .i64 a1, .int .i64 a2, .int .i64 a3, .string a4, .int .i64 a5, .int .i64 a6]) (t := 29) ?hr ?_; (case hd => rfl); (case hg => rfl); (case hr => first | (go_simp; done) | (go_simp; rfl)); intro gx hgx w1 hbox hb1; have n0 := Aside0.mk hbox; have n1 := Aside0.mk hb1; clear hbox hb1 hgx) | (clear S2; (with_reducible refine gate_dst (N := 2) rfl ?_); refine box_event ?hg (N := 2) ?hd (cs := #[.int .i64 0, .int .i64 0, .int .i64 0, .int .i64 0, .string ⟨#[]⟩, .int .i64 0, .int .i64 0]) (t := 29) ?hr ?_; (case hd => rfl); (case hg => rfl); (case hr => first | (go_simp; done) | (go_simp; rfl)); intro gr hgr w2 hbox hb2; have n2 := Aside0.mk hbox; have n3 := Aside0.mk (below_step n1.out hb2); have n4 := Aside0.mk (blk_below n0.out hb2); have n6 := Aside0.mk (show w.heap.size ≤ gr by rw [hgr]; exact n1.out.size); have c0 : w2.cell? ⟨gx, 0, none⟩ = some (.int .i64 a0) := (by rw [Lib.cell_of_heap n4.out]; rfl); clear hbox hb2 hgr) | (clear S4; (with_reducible refine gate_dst (N := 3) rfl ?_); refine box_event ?hg (N := 3) ?hd (cs := #[.int .i64 0, .int .i64 0, .int .i64 0, .int .i64 0, .string ⟨#[]⟩, .int .i64 0, .int .i64 0]) (t := 29) ?hr ?_; (case hd => rfl); (case hg => rfl); (case hr => first | (go_simp; done) | (go_simp; rfl)); intro gp hgp w3 hbox hb3; have p0 := Aside0.mk hbox; have p1 := Aside0.mk (below_step n3.out hb3); have p2 := Aside0.mk (blk_below n4.out hb3); have p3 := Aside0.mk (blk_below n2.out hb3); have p4 := Aside0.mk (show w.heap.size ≤ gp by rw [hgp]; exact n3.out.size); have p5 := Aside0.mk (show gx ≠ gp by rw [hgp]; have := blk_lt n4.out; omega); have p6 := Aside0.mk (show gr ≠ gp by rw [hgp]; have := blk_lt n2.out; omega); clear hbox hb3 hgp) | (clear S5; refine st29at rfl rfl rfl rfl rfl p0.out rfl rfl (by first | rfl | (simp [Value.oneCell'])) ?_; intro w4 h4 hk4 hb4; have q0 := Aside0.mk h4; have q1 := Aside0.mk (hb4 _ _ p1.out p4.out); have q2 := Aside0.mk (hk4 _ _ p2.out p5.out); have q3 := Aside0.mk (hk4 _ _ p3.out p6.out); have c1 : w4.cell? ⟨gx, 0, none⟩ = some (.int .i64 a0) := (by rw [Lib.cell_of_heap q2.out]; rfl); clear h4 hk4 hb4) | (clear S3; go_at_call 41; refine (script_shapeOf.calls a0 W0 F0 _ HS.out).mono ?_; rintro e w5 ⟨rfl, hb5⟩; have m0 := Aside0.mk (blk_below q0.out hb5); have m1 := Aside0.mk (below_step q1.out hb5); have m2 := Aside0.mk (blk_below q2.out hb5); have m3 := Aside0.mk (blk_below q3.out hb5); have m4 := Aside0.mk hb5; clear hb5) | go_in)
  obtain ⟨K, hK⟩ : ∃ K, K = w5.heap.size := ⟨_, rfl⟩
  have HKs := Aside0.mk hK
  clear hK
  have HST := Aside0.mk (show #[Value.int .i64 a0, .int .i64 0, .int .i64 0, .int .i64 0, .string ⟨#[]⟩, .int .i64 0, .int .i64 0] = cellsA (plainL a0 a1 a2 a3 a4 a5 a6 []) by simp [cellsA, plainL])
  rw [HST.out] at m0
  try clear c0 c1
  go_loopw [] (fun wr => ∃ (pos : Nat), Aside0 (pos ≤ F0.size) ∧ Aside0 (wr.heap[K]? = some (.stringIter F0 pos)) ∧ Aside0 (wr.heap[gp]? = some (.cells (cellsA (plainL a0 a1 a2 a3 a4 a5 a6 ((bytesOf F0).take pos))) 29 (0, 0))) ∧ Aside0 (wr.heap[gx]? = some (.cells #[.int .i64 a0, .int .i64 a1, .int .i64 a2, .int .i64 a3, .string a4, .int .i64 a5, .int .i64 a6] 29 (0, 0))) ∧ Aside0 (wr.heap[gr]? = some (.cells #[.int .i64 0, .int .i64 0, .int .i64 0, .int .i64 0, .string ⟨#[]⟩, .int .i64 0, .int .i64 0] 29 (0, 0))) ∧ Aside0 (Below w.heap.size w wr)) (fun wr => F0.size - wr.iterPos K)
  case atStart =>
    refine ⟨0, ⟨Nat.zero_le _⟩, ⟨?_⟩, ⟨blk_alloc m0.out _⟩, ⟨blk_alloc m2.out _⟩, ⟨blk_alloc m3.out _⟩, ⟨below_alloc m1.out _⟩⟩
    have := World.iter_heap w5 F0 0
    rw [HKs.out]
    simpa using this
  case round =>
    obtain ⟨pos, HP, HI, HG, HX, HZ, HW⟩ := hrel
    by_cases hp : pos < F0.size
    · have hmem : bt F0 pos ∈ bytesOf F0 := by
        rw [bt_getD, Int.toNat_natCast, List.getD_eq_getElem?_getD, List.getElem?_eq_getElem (by rw [bytesOf_length]; exact hp)]; exact List.getElem_mem _
      have hlet := HL.out _ hmem
      have hbt : ((F0[pos]'hp).toNat : Int) = bt F0 pos := by unfold bt; rw [dif_pos (by simpa using hp)]; rfl
      have hasc : (F0[pos]'hp).toNat < 128 := by omega
      have hnx : ∀ ty, (Instr.next (.pointer (some ⟨K, 0, none⟩)) true ty).run Tryd.prog wr = _ := fun ty => Lib.run_next_ascii_at wr K F0 pos ty HI.out hp hasc
      rw [hbt] at hnx
      have hpc : (bytesOf F0).take (pos + 1) = (bytesOf F0).take pos ++ [bt F0 pos] := by
        rw [List.take_succ_eq_append_getElem (by rw [bytesOf_length]; exact hp), bt_getD, Int.toNat_natCast, List.getD_eq_getElem?_getD, List.getElem?_eq_getElem (by rw [bytesOf_length]; exact hp)]; rfl
      have HI2 := Aside0.mk (Lib.iterAt_heap wr K F0 pos (pos + 1) HI.out)
      have nek : ∀ g cs, wr.heap[g]? = some (.cells cs 29 (0, 0)) → g ≠ K := by intro g cs h1 e; rw [e, HI.out] at h1; cases h1
      have HG2 := Aside0.mk ((Lib.iterAt_other wr K gp F0 (pos + 1) (nek _ _ HG.out)).trans HG.out)
      have HX2 := Aside0.mk ((Lib.iterAt_other wr K gx F0 (pos + 1) (nek _ _ HX.out)).trans HX.out)
      have HZ2 := Aside0.mk ((Lib.iterAt_other wr K gr F0 (pos + 1) (nek _ _ HZ.out)).trans HZ.out)
      have HW2 := Aside0.mk (Lib.below_iterAt HW.out (k := K) (by rw [HKs.out]; exact m1.out.size) F0 (pos + 1))
      have HN1 := Aside0.mk (nek _ _ HG.out)
      obtain ⟨W2, hW2⟩ : ∃ W, wr.iterAt K F0 (pos + 1) = W := ⟨_, rfl⟩
      rw [hW2] at hnx HI2 HG2 HX2 HZ2 HW2
      have hm2 : F0.size - W2.iterPos K < F0.size - wr.iterPos K := by simp only [World.iterPos, HI2.out, HI.out]; omega
      have HM2 := Aside0.mk hm2
      have HPC := Aside0.mk hpc
      have HHP := Aside0.mk hp
      clear hW2 hm2 hbt hasc nek hmem hp hpc
      obtain ⟨c, hc⟩ : ∃ c, bt F0 pos = c := ⟨_, rfl⟩
      rw [hc] at hnx HPC hlet
      clear hc
      rw [HKs.out] at hnx
      obtain ⟨O, hO⟩ : ∃ O, plainL a0 a1 a2 a3 a4 a5 a6 ((bytesOf F0).take pos) = O := ⟨_, rfl⟩
      have HO := Aside0.mk hO
      rw [hO] at HG2
      clear hO
      by_cases h115 : c = 115
      · subst h115
        have c4 : W2.cell? ⟨gx, 4, none⟩ = some (.string a4) := by rw [Lib.cell_of_heap HX2.out]; rfl
        have d4 : W2.cell? ⟨gp, 4, none⟩ = some (.string O.f4) := by rw [Lib.cell_of_heap HG2.out]; rfl
        have f4 := blk_frozen HG2.out 4
        have HS4 := Aside0.mk (show (W2.setCell ⟨gp, 4, none⟩ (.string a4)).heap[gp]? = some (.cells (cellsA (plainL a0 a1 a2 a3 a4 a5 a6 ((bytesOf F0).take (pos + 1)))) 29 (0, 0)) by rw [blk_set HG2.out, ← HO.out, plain_sku, HPC.out])
        go_wp2
        go_roundw
        case rel => exact ⟨pos + 1, ⟨HHP.out⟩, ⟨(Below.heap_setCell _ _ _ _ (fun e => HN1.out e.symm)).trans HI2.out⟩, HS4, ⟨blk_far HX2.out p5.out _⟩, ⟨blk_far HZ2.out p6.out _⟩, ⟨below_set HW2.out p4.out⟩⟩
        case measure =>
          have h1 := HM2.out
          simp only [World.iterPos, HI2.out] at h1
          simp only [World.iterPos, (Below.heap_setCell W2 ⟨gp, 4, none⟩ (.string a4) K (fun e => HN1.out e.symm)).trans HI2.out]
          exact h1
      · have cf : W2.cell? ⟨gx, fldOff c, none⟩ = some (.int .i64 (fldV a0 a1 a2 a3 a5 a6 c)) := by
          rw [Lib.cell_of_heap HX2.out]
          rcases hlet with rfl | rfl | rfl | rfl | rfl | rfl | rfl <;> first | exact absurd rfl h115 | rfl
        have hcc : c = 114 ∨ c = 99 ∨ c = 116 ∨ c = 113 ∨ c = 110 ∨ c = 107 := by omega
        obtain ⟨u, du⟩ : ∃ u, W2.cell? ⟨gp, fldOff c, none⟩ = some u := by
          rw [Lib.cell_of_heap HG2.out]
          rcases hcc with rfl | rfl | rfl | rfl | rfl | rfl <;> exact ⟨_, rfl⟩
        have ff := blk_frozen HG2.out (fldOff c)
        have HCC := Aside0.mk hcc
        have hcb : (c == 115) = false := beq_eq_false_iff_ne.mpr h115
        obtain ⟨V, hV⟩ : ∃ V, fldV a0 a1 a2 a3 a5 a6 c = V := ⟨_, rfl⟩
        have HS4 := Aside0.mk (show (W2.setCell ⟨gp, fldOff c, none⟩ (.int .i64 V)).heap[gp]? = some (.cells (cellsA (plainL a0 a1 a2 a3 a4 a5 a6 ((bytesOf F0).take (pos + 1)))) 29 (0, 0)) by rw [blk_set HG2.out, ← HO.out, ← hV, plain_num _ _ _ _ _ _ _ _ _ hcc, HPC.out])
        rw [hV] at cf
        clear hcc hlet h115 hV
        obtain ⟨off, hoff⟩ : ∃ off, fldOff c = off := ⟨_, rfl⟩
        have hfldP : ∀ W, Calls Tryd.prog 43 #[.pointer (some ⟨gp, 0, none⟩), .int .i32 c] W fun e w' => e = .returned (.pointer (some ⟨gp, off, none⟩)) ∧ w' = W := fun W => hoff ▸ script_field.calls gp c W HCC.out
        have hfldX : ∀ W, Calls Tryd.prog 43 #[.pointer (some ⟨gx, 0, none⟩), .int .i32 c] W fun e w' => e = .returned (.pointer (some ⟨gx, off, none⟩)) ∧ w' = W := fun W => hoff ▸ script_field.calls gx c W HCC.out
        have HFP := Aside0.mk hfldP
        have HFX := Aside0.mk hfldX
        rw [hoff] at cf du ff HS4
        clear hoff hfldP hfldX
        have S6 : True := trivial
        have S7 : True := trivial
        go_wp2_with (first | (clear S6; go_at_call 43; refine (HFP.out _).mono ?_; rintro e w6 ⟨rfl, hw6⟩; obtain rfl := hw6.symm) | (clear S7; go_at_call 43; refine (HFX.out _).mono ?_; rintro e w6 ⟨rfl, hw6⟩; obtain rfl := hw6.symm) | go_in)
        go_roundw
        case rel => exact ⟨pos + 1, ⟨HHP.out⟩, ⟨(Below.heap_setCell _ _ _ _ (fun e => HN1.out e.symm)).trans HI2.out⟩, HS4, ⟨blk_far HX2.out p5.out _⟩, ⟨blk_far HZ2.out p6.out _⟩, ⟨below_set HW2.out p4.out⟩⟩
        case measure =>
          have h1 := HM2.out
          simp only [World.iterPos, HI2.out] at h1
          simp only [World.iterPos, (Below.heap_setCell _ ⟨gp, off, none⟩ (.int .i64 V) K (fun e => HN1.out e.symm)).trans HI2.out]
          exact h1
    · have hnx : ∀ ty, (Instr.next (.pointer (some ⟨K, 0, none⟩)) true ty).run Tryd.prog wr = _ := fun ty => Lib.run_next_end_at wr K F0 pos ty HI.out hp
      rw [HKs.out] at hnx
      have hb := HG.out
      rw [List.take_of_length_le (by rw [bytesOf_length]; omega)] at hb
      have he : plainL a0 a1 a2 a3 a4 a5 a6 (bytesOf F0) = RES := by
        rw [← HRES.out]; unfold plainO; rw [HWF.out]
      rw [he] at hb
      have HBB := Aside0.mk hb
      have d0 : wr.cell? ⟨gp, 0, none⟩ = some (.int .i64 RES.f0) := by rw [Lib.cell_of_heap hb]; rfl
      have d1 : wr.cell? ⟨gp, 1, none⟩ = some (.int .i64 RES.f1) := by rw [Lib.cell_of_heap hb]; rfl
      have d2 : wr.cell? ⟨gp, 2, none⟩ = some (.int .i64 RES.f2) := by rw [Lib.cell_of_heap hb]; rfl
      have d3 : wr.cell? ⟨gp, 3, none⟩ = some (.int .i64 RES.f3) := by rw [Lib.cell_of_heap hb]; rfl
      have d4 : wr.cell? ⟨gp, 4, none⟩ = some (.string RES.f4) := by rw [Lib.cell_of_heap hb]; rfl
      have d5 : wr.cell? ⟨gp, 5, none⟩ = some (.int .i64 RES.f5) := by rw [Lib.cell_of_heap hb]; rfl
      have d6 : wr.cell? ⟨gp, 6, none⟩ = some (.int .i64 RES.f6) := by rw [Lib.cell_of_heap hb]; rfl
      clear hb hp he
      have S6 : True := trivial
      go_wp2_with (first | (clear S6; refine st29at (g := gr) rfl rfl rfl rfl rfl HZ.out rfl rfl (by first | rfl | (simp [Value.oneCell'])) ?_; intro w4 h4 hk4 hb4; have q0 := Aside0.mk h4; have q1 := Aside0.mk (hb4 _ _ HW.out n6.out); clear h4 hk4 hb4) | go_in)
      exact bodyPost_ret (results_c rfl _ _ gr 29 (cellsA RES) (0, 0) _ rfl q0.out Tryd.underlying29 rfl (by kernel_rfl)) rfl ⟨rfl, q1.out⟩
end Go.Proofs.YtlmdhpfggobogaaDoor.G

namespace Go.Proofs.YtlmdhpfggobogaaDoor.G
open Go.RowKit Go.Proofs.YtlmdhpfggobogaaDoorW.PrintWords Go.Proofs.YtlmdhpfggobogaaDoorW.PrintLast Go.Proofs.YtlmdhpfggobogaaDoorW.PrintMore
attribute [local go_sem] max2_int min2_int max_two min_two max_three min_three max_four min_four   -- for this text's walks alone
set_option linter.unusedVariables false
set_option linter.unusedSimpArgs false
end Go.Proofs.YtlmdhpfggobogaaDoor.G
