import Derived.Test.YtlmdhpfggobogaaDoorQSk16
import Derived.Laws.CopyOwn
import Derived.Laws.Tables
import Derived.Test.YtlmdhpfggobogaaDoorQSk5
namespace Go.Proofs.YtlmdhpfggobogaaDoor.G
open Go.RowKit Go.Proofs.YtlmdhpfggobogaaDoorW.PrintWords Go.Proofs.YtlmdhpfggobogaaDoorW.PrintLast Go.Proofs.YtlmdhpfggobogaaDoorW.PrintMore
set_option linter.unusedVariables false
section
variable {P : Program}
theorem results_c {fn : Func} {p : Tmp} {ty : TypeId} (h : fn.results = #[.cell p ty]) (tmps : Array Value) (w : World) (g : Nat) (t : TypeId) (cs : Array Value) (fr : Nat × Nat) (d : TypeDesc)
    (hp : tmps.getD p undef = .pointer (some ⟨g, 0, none⟩)) (hg : w.heap[g]? = some (.cells cs t fr))
    (hu : P.underlying ty = some d) (hd : (match d with | .struct _ | .array _ _ => true | _ => false) = true) (hi : (P.info? ty).map (·.size) = some cs.size) :
    (results fn tmps).run P w = .ok (.agg cs) w := by
  have hp' : tmps[p]?.getD undef = .pointer (some ⟨g, 0, none⟩) := by simpa using hp
  simp [results, h, hp', asAddr, run_loadVar_row w g t ty cs fr d hg hu hd hi]
end
def cellsA (o : S29) : Array Value := #[.int .i64 o.f0, .int .i64 o.f1, .int .i64 o.f2, .int .i64 o.f3, .string o.f4, .int .i64 o.f5, .int .i64 o.f6]
def plainL (a0 a1 a2 a3 : Int) (a4 : ByteArray) (a5 a6 : Int) (L : List Int) : S29 :=
  ⟨a0, if 114 ∈ L then a1 else 0, if 99 ∈ L then a2 else 0, if 116 ∈ L then a3 else 0, if 115 ∈ L then a4 else ⟨#[]⟩, if 113 ∈ L then a5 else 0, if 110 ∈ L then a6 else 0⟩
def plainO (a0 a1 a2 a3 : Int) (a4 : ByteArray) (a5 a6 : Int) : S29 := plainL a0 a1 a2 a3 a4 a5 a6 (bytesOf (shp a0).2)
def tupO (o : S29) : Int × Int × Int × Int × ByteArray × Int × Int := (o.f0, o.f1, o.f2, o.f3, o.f4, o.f5, o.f6)
def script_Plain.f (a0 a1 a2 a3 : Int) (a4 : ByteArray) (a5 a6 : Int) : Option (Int × Int × Int × Int × ByteArray × Int × Int) := some (tupO (plainO a0 a1 a2 a3 a4 a5 a6))
theorem plain_num (a0 a1 a2 a3 : Int) (a4 : ByteArray) (a5 a6 : Int) (L : List Int) (c : Int) (h : c = 114 ∨ c = 99 ∨ c = 116 ∨ c = 113 ∨ c = 110 ∨ c = 107) :
    (cellsA (plainL a0 a1 a2 a3 a4 a5 a6 L)).setIfInBounds (fldOff c) (.int .i64 (fldV a0 a1 a2 a3 a5 a6 c)) = cellsA (plainL a0 a1 a2 a3 a4 a5 a6 (L ++ [c])) := by
  rcases h with rfl | rfl | rfl | rfl | rfl | rfl <;> simp [cellsA, plainL, fldOff, fldV]
theorem plain_sku (a0 a1 a2 a3 : Int) (a4 : ByteArray) (a5 a6 : Int) (L : List Int) :
    (cellsA (plainL a0 a1 a2 a3 a4 a5 a6 L)).setIfInBounds 4 (.string a4) = cellsA (plainL a0 a1 a2 a3 a4 a5 a6 (L ++ [115])) := by
  simp [cellsA, plainL]
theorem st29at {ops : Array Oper} {rest : List Oper} {o : Oper} {a : Act} {Q : Exit → Act → World → Prop} {w : World} {g : Nat} {O C : Array Value} {x y : Operand} (hgd : o.guard = none)
  (ho : o.op = .store 29 x y) (hd : o.dst = none) (hx : a.eval x = .pointer (some ⟨g, 0, none⟩)) (hy : a.eval y = .agg C) (hg : w.heap[g]? = some (.cells O 29 (0, 0)))
  (hO : O.size = 7) (hC : C.size = 7) (h1 : C.all (·.oneCell') = true) (h : ∀ w2, w2.heap[g]? = some (.cells C 29 (0, 0)) → (∀ k o, w.heap[k]? = some o → k ≠ g → w2.heap[k]? = some o) → (∀ B w0, Below B w0 w → B ≤ g → Below B w0 w2) → wpList Tryd.prog ops Q rest a w2) :
  wpList Tryd.prog ops Q (o :: rest) a w :=
 wpList_store_rowTo hgd 29 x y ho hd g C hx hy 29 O hg (by rw [hC]; kernel_rfl) (by omega) h1 (h _ (setRow_heap w g O C 29 (0, 0) hg) (fun k o hk hne => (setRow_other w g k C hne).trans hk) (fun B w0 hb hB => below_setRow hb hB C))
set_option maxHeartbeats 4000000 in
set_option maxRecDepth 100000 in
theorem script_Plain.calls (a0 a1 a2 a3 : Int) (a4 : ByteArray) (a5 a6 : Int) (r1 r2 r3 r4 : Int) (r5 : ByteArray) (r6 r7 : Int) (w : World) (h : script_Plain.f a0 a1 a2 a3 a4 a5 a6 = some (r1, r2, r3, r4, r5, r6, r7)) :
    Calls Tryd.prog 20 #[.agg #[.int .i64 a0, .int .i64 a1, .int .i64 a2, .int .i64 a3, .string a4, .int .i64 a5, .int .i64 a6]] w fun e w' => e = .returned (.agg #[.int .i64 r1, .int .i64 r2, .int .i64 r3, .int .i64 r4, .string r5, .int .i64 r6, .int .i64 r7]) ∧ Below w.heap.size w w' := by
  have hR : (Value.agg #[.int .i64 r1, .int .i64 r2, .int .i64 r3, .int .i64 r4, .string r5, .int .i64 r6, .int .i64 r7]) = .agg (cellsA (plainO a0 a1 a2 a3 a4 a5 a6)) := by
    have h1 := Option.some.inj h
    simp only [tupO, Prod.mk.injEq] at h1
    obtain ⟨e1, e2, e3, e4, e5, e6, e7⟩ := h1
    rw [← e1, ← e2, ← e3, ← e4, ← e5, ← e6, ← e7]; rfl
  rw [hR]
  clear h hR
  have HS := Aside0.mk (shp_eq a0)
  obtain ⟨_, _, hl0, hw0, hf0⟩ := shapes a0
  have HL := Aside0.mk hl0
  have HFs := Aside0.mk hf0
  clear hl0 hw0 hf0
  obtain ⟨RES, hRES⟩ : ∃ R, plainO a0 a1 a2 a3 a4 a5 a6 = R := ⟨_, rfl⟩
  have HRES := Aside0.mk hRES
  rw [hRES]
  clear hRES
  obtain ⟨W0, hW0⟩ : ∃ W0, (shp a0).1 = W0 := ⟨_, rfl⟩
  obtain ⟨F0, hF0⟩ : ∃ F0, (shp a0).2 = F0 := ⟨_, rfl⟩
  have hWF : shp a0 = (W0, F0) := by rw [← hW0, ← hF0]
  rw [hWF] at HS HL HFs
  have HWF := Aside0.mk hWF
  clear hWF hW0 hF0
  have S1 : True := trivial
  have S2 : True := trivial
  have S3 : True := trivial
  have S4 : True := trivial
  have S5 : True := trivial
  have hfd : ∀ w : World, (Instr.field 74 (.agg #[.string W0, .string F0]) 1).run Tryd.prog w = .ok (.string F0) w := fun _ => by kernel_rfl
  go_enter Tryd.func20, Tryd.ntmps20
  go_wp2_with (first | (clear S1; (with_reducible refine gate_dst (N := 1) rfl ?_); refine box_event ?hg (N := 1) ?hd (cs := #[.int .i64 a0, .int .i64 a1, .int .i64 a2, .int .i64 a3, .string a4, .int .i64 a5, .int .i64 a6]) (t := 29) ?hr ?_; (case hd => rfl); (case hg => rfl); (case hr => first | (go_simp; done) | (go_simp; rfl)); intro gx hgx w1 hbox hb1; have n0 := Aside0.mk hbox; have n1 := Aside0.mk hb1; clear hbox hb1 hgx) | (clear S2; (with_reducible refine gate_dst (N := 2) rfl ?_); refine box_event ?hg (N := 2) ?hd (cs := #[.int .i64 0, .int .i64 0, .int .i64 0, .int .i64 0, .string ⟨#[]⟩, .int .i64 0, .int .i64 0]) (t := 29) ?hr ?_; (case hd => rfl); (case hg => rfl); (case hr => first | (go_simp; done) | (go_simp; rfl)); intro gr hgr w2 hbox hb2; have n2 := Aside0.mk hbox; have n3 := Aside0.mk (below_step n1.out hb2); have n4 := Aside0.mk (blk_below n0.out hb2); have n6 := Aside0.mk (show w.heap.size ≤ gr by rw [hgr]; exact n1.out.size); have c0 : w2.cell? ⟨gx, 0, none⟩ = some (.int .i64 a0) := (by rw [Lib.cell_of_heap n4.out]; rfl); clear hbox hb2 hgr) | (clear S4; (with_reducible refine gate_dst (N := 3) rfl ?_); refine box_event ?hg (N := 3) ?hd (cs := #[.int .i64 0, .int .i64 0, .int .i64 0, .int .i64 0, .string ⟨#[]⟩, .int .i64 0, .int .i64 0]) (t := 29) ?hr ?_; (case hd => rfl); (case hg => rfl); (case hr => first | (go_simp; done) | (go_simp; rfl)); intro gp hgp w3 hbox hb3; have p0 := Aside0.mk hbox; have p1 := Aside0.mk (below_step n3.out hb3); have p2 := Aside0.mk (blk_below n4.out hb3); have p3 := Aside0.mk (blk_below n2.out hb3); have p4 := Aside0.mk (show w.heap.size ≤ gp by rw [hgp]; exact n3.out.size); have p5 := Aside0.mk (show gx ≠ gp by rw [hgp]; have := blk_lt n4.out; omega); have p6 := Aside0.mk (show gr ≠ gp by rw [hgp]; have := blk_lt n2.out; omega); clear hbox hb3 hgp) | (clear S5; refine st29at rfl rfl rfl rfl rfl p0.out rfl rfl (by first | rfl | (simp [Value.oneCell'])) ?_; intro w4 h4 hk4 hb4; have q0 := Aside0.mk h4; have q1 := Aside0.mk (hb4 _ _ p1.out p4.out); have q2 := Aside0.mk (hk4 _ _ p2.out p5.out); have q3 := Aside0.mk (hk4 _ _ p3.out p6.out); have c1 : w4.cell? ⟨gx, 0, none⟩ = some (.int .i64 a0) := (by rw [Lib.cell_of_heap q2.out]; rfl); clear h4 hk4 hb4) | (clear S3; go_at_call 41; refine (script_shapeOf.calls a0 W0 F0 _ HS.out).mono ?_; rintro e w5 ⟨rfl, hb5⟩; have m0 := Aside0.mk (blk_below q0.out hb5); have m1 := Aside0.mk (below_step q1.out hb5); have m2 := Aside0.mk (blk_below q2.out hb5); have m3 := Aside0.mk (blk_below q3.out hb5); have m4 := Aside0.mk hb5; clear hb5) | go_in)
  obtain ⟨K, hK⟩ : ∃ K, K = w5.heap.size := ⟨_, rfl⟩
  have HKs := Aside0.mk hK
  clear hK
  have HST := Aside0.mk (show #[Value.int .i64 a0, .int .i64 0, .int .i64 0, .int .i64 0, .string ⟨#[]⟩, .int .i64 0, .int .i64 0] = cellsA (plainL a0 a1 a2 a3 a4 a5 a6 []) by simp [cellsA, plainL])
  rw [HST.out] at m0
  try clear c0 c1
  go_loopw [] (fun wr => ∃ (pos : Nat), Aside0 (pos ≤ F0.size) ∧ Aside0 (wr.heap[K]? = some (.stringIter F0 pos)) ∧ Aside0 (wr.heap[gp]? = some (.cells (cellsA (plainL a0 a1 a2 a3 a4 a5 a6 ((bytesOf F0).take pos))) 29 (0, 0))) ∧ Aside0 (wr.heap[gx]? = some (.cells #[.int .i64 a0, .int .i64 a1, .int .i64 a2, .int .i64 a3, .string a4, .int .i64 a5, .int .i64 a6] 29 (0, 0))) ∧ Aside0 (wr.heap[gr]? = some (.cells #[.int .i64 0, .int .i64 0, .int .i64 0, .int .i64 0, .string ⟨#[]⟩, .int .i64 0, .int .i64 0] 29 (0, 0))) ∧ Aside0 (Below w.heap.size w wr)) (fun wr => F0.size - wr.iterPos K)
  case atStart =>
    refine ⟨0, ⟨Nat.zero_le _⟩, ⟨?_⟩, ⟨blk_alloc m0.out _⟩, ⟨blk_alloc m2.out _⟩, ⟨blk_alloc m3.out _⟩, ⟨below_alloc m1.out _⟩⟩
    have := World.iter_heap w5 F0 0
    rw [HKs.out]
    simpa using this
  case round =>
    obtain ⟨pos, HP, HI, HG, HX, HZ, HW⟩ := hrel
    by_cases hp : pos < F0.size
    · have hmem : bt F0 pos ∈ bytesOf F0 := by
        rw [bt_getD, Int.toNat_natCast, List.getD_eq_getElem?_getD, List.getElem?_eq_getElem (by rw [bytesOf_length]; exact hp)]; exact List.getElem_mem _
      have hlet := HL.out _ hmem
      have hbt : ((F0[pos]'hp).toNat : Int) = bt F0 pos := by unfold bt; rw [dif_pos (by simpa using hp)]; rfl
      have hasc : (F0[pos]'hp).toNat < 128 := by omega
      have hnx : ∀ ty, (Instr.next (.pointer (some ⟨K, 0, none⟩)) true ty).run Tryd.prog wr = _ := fun ty => Lib.run_next_ascii_at wr K F0 pos ty HI.out hp hasc
      rw [hbt] at hnx
      have hpc : (bytesOf F0).take (pos + 1) = (bytesOf F0).take pos ++ [bt F0 pos] := by
        rw [List.take_succ_eq_append_getElem (by rw [bytesOf_length]; exact hp), bt_getD, Int.toNat_natCast, List.getD_eq_getElem?_getD, List.getElem?_eq_getElem (by rw [bytesOf_length]; exact hp)]; rfl
      have HI2 := Aside0.mk (Lib.iterAt_heap wr K F0 pos (pos + 1) HI.out)
      have nek : ∀ g cs, wr.heap[g]? = some (.cells cs 29 (0, 0)) → g ≠ K := by intro g cs h1 e; rw [e, HI.out] at h1; cases h1
      have HG2 := Aside0.mk ((Lib.iterAt_other wr K gp F0 (pos + 1) (nek _ _ HG.out)).trans HG.out)
      have HX2 := Aside0.mk ((Lib.iterAt_other wr K gx F0 (pos + 1) (nek _ _ HX.out)).trans HX.out)
      have HZ2 := Aside0.mk ((Lib.iterAt_other wr K gr F0 (pos + 1) (nek _ _ HZ.out)).trans HZ.out)
      have HW2 := Aside0.mk (Lib.below_iterAt HW.out (k := K) (by rw [HKs.out]; exact m1.out.size) F0 (pos + 1))
      have HN1 := Aside0.mk (nek _ _ HG.out)
      obtain ⟨W2, hW2⟩ : ∃ W, wr.iterAt K F0 (pos + 1) = W := ⟨_, rfl⟩
      rw [hW2] at hnx HI2 HG2 HX2 HZ2 HW2
      have hm2 : F0.size - W2.iterPos K < F0.size - wr.iterPos K := by simp only [World.iterPos, HI2.out, HI.out]; omega
      have HM2 := Aside0.mk hm2
      have HPC := Aside0.mk hpc
      have HHP := Aside0.mk hp
      clear hW2 hm2 hbt hasc nek hmem hp hpc
      obtain ⟨c, hc⟩ : ∃ c, bt F0 pos = c := ⟨_, rfl⟩
      rw [hc] at hnx HPC hlet
      clear hc
      rw [HKs.out] at hnx
      obtain ⟨O, hO⟩ : ∃ O, plainL a0 a1 a2 a3 a4 a5 a6 ((bytesOf F0).take pos) = O := ⟨_, rfl⟩
      have HO := Aside0.mk hO
      rw [hO] at HG2
      clear hO
      by_cases h115 : c = 115
      · subst h115
        have c4 : W2.cell? ⟨gx, 4, none⟩ = some (.string a4) := by rw [Lib.cell_of_heap HX2.out]; rfl
        have d4 : W2.cell? ⟨gp, 4, none⟩ = some (.string O.f4) := by rw [Lib.cell_of_heap HG2.out]; rfl
        have f4 := blk_frozen HG2.out 4
        have HS4 := Aside0.mk (show (W2.setCell ⟨gp, 4, none⟩ (.string a4)).heap[gp]? = some (.cells (cellsA (plainL a0 a1 a2 a3 a4 a5 a6 ((bytesOf F0).take (pos + 1)))) 29 (0, 0)) by rw [blk_set HG2.out, ← HO.out, plain_sku, HPC.out])
        go_wp2
        go_roundw
        case rel => exact ⟨pos + 1, ⟨HHP.out⟩, ⟨(Below.heap_setCell _ _ _ _ (fun e => HN1.out e.symm)).trans HI2.out⟩, HS4, ⟨blk_far HX2.out p5.out _⟩, ⟨blk_far HZ2.out p6.out _⟩, ⟨below_set HW2.out p4.out⟩⟩
        case measure =>
          have h1 := HM2.out
          simp only [World.iterPos, HI2.out] at h1
          simp only [World.iterPos, (Below.heap_setCell W2 ⟨gp, 4, none⟩ (.string a4) K (fun e => HN1.out e.symm)).trans HI2.out]
          exact h1
      · have cf : W2.cell? ⟨gx, fldOff c, none⟩ = some (.int .i64 (fldV a0 a1 a2 a3 a5 a6 c)) := by
          rw [Lib.cell_of_heap HX2.out]
          rcases hlet with rfl | rfl | rfl | rfl | rfl | rfl | rfl <;> first | exact absurd rfl h115 | rfl
        have hcc : c = 114 ∨ c = 99 ∨ c = 116 ∨ c = 113 ∨ c = 110 ∨ c = 107 := by omega
        obtain ⟨u, du⟩ : ∃ u, W2.cell? ⟨gp, fldOff c, none⟩ = some u := by
          rw [Lib.cell_of_heap HG2.out]
          rcases hcc with rfl | rfl | rfl | rfl | rfl | rfl <;> exact ⟨_, rfl⟩
        have ff := blk_frozen HG2.out (fldOff c)
        have HCC := Aside0.mk hcc
        have hcb : (c == 115) = false := beq_eq_false_iff_ne.mpr h115
        obtain ⟨V, hV⟩ : ∃ V, fldV a0 a1 a2 a3 a5 a6 c = V := ⟨_, rfl⟩
        have HS4 := Aside0.mk (show (W2.setCell ⟨gp, fldOff c, none⟩ (.int .i64 V)).heap[gp]? = some (.cells (cellsA (plainL a0 a1 a2 a3 a4 a5 a6 ((bytesOf F0).take (pos + 1)))) 29 (0, 0)) by rw [blk_set HG2.out, ← HO.out, ← hV, plain_num _ _ _ _ _ _ _ _ _ hcc, HPC.out])
        rw [hV] at cf
        clear hcc hlet h115 hV
        obtain ⟨off, hoff⟩ : ∃ off, fldOff c = off := ⟨_, rfl⟩
        have hfldP : ∀ W, Calls Tryd.prog 43 #[.pointer (some ⟨gp, 0, none⟩), .int .i32 c] W fun e w' => e = .returned (.pointer (some ⟨gp, off, none⟩)) ∧ w' = W := fun W => hoff ▸ script_field.calls gp c W HCC.out
        have hfldX : ∀ W, Calls Tryd.prog 43 #[.pointer (some ⟨gx, 0, none⟩), .int .i32 c] W fun e w' => e = .returned (.pointer (some ⟨gx, off, none⟩)) ∧ w' = W := fun W => hoff ▸ script_field.calls gx c W HCC.out
        have HFP := Aside0.mk hfldP
        have HFX := Aside0.mk hfldX
        rw [hoff] at cf du ff HS4
        clear hoff hfldP hfldX
        have S6 : True := trivial
        have S7 : True := trivial
        go_wp2_with (first | (clear S6; go_at_call 43; refine (HFP.out _).mono ?_; rintro e w6 ⟨rfl, hw6⟩; obtain rfl := hw6.symm) | (clear S7; go_at_call 43; refine (HFX.out _).mono ?_; rintro e w6 ⟨rfl, hw6⟩; obtain rfl := hw6.symm) | go_in)
        go_roundw
        case rel => exact ⟨pos + 1, ⟨HHP.out⟩, ⟨(Below.heap_setCell _ _ _ _ (fun e => HN1.out e.symm)).trans HI2.out⟩, HS4, ⟨blk_far HX2.out p5.out _⟩, ⟨blk_far HZ2.out p6.out _⟩, ⟨below_set HW2.out p4.out⟩⟩
        case measure =>
          have h1 := HM2.out
          simp only [World.iterPos, HI2.out] at h1
          simp only [World.iterPos, (Below.heap_setCell _ ⟨gp, off, none⟩ (.int .i64 V) K (fun e => HN1.out e.symm)).trans HI2.out]
          exact h1
    · have hnx : ∀ ty, (Instr.next (.pointer (some ⟨K, 0, none⟩)) true ty).run Tryd.prog wr = _ := fun ty => Lib.run_next_end_at wr K F0 pos ty HI.out hp
      rw [HKs.out] at hnx
      have hb := HG.out
      rw [List.take_of_length_le (by rw [bytesOf_length]; omega)] at hb
      have he : plainL a0 a1 a2 a3 a4 a5 a6 (bytesOf F0) = RES := by
        rw [← HRES.out]; unfold plainO; rw [HWF.out]
      rw [he] at hb
      have HBB := Aside0.mk hb
      have d0 : wr.cell? ⟨gp, 0, none⟩ = some (.int .i64 RES.f0) := by rw [Lib.cell_of_heap hb]; rfl
      have d1 : wr.cell? ⟨gp, 1, none⟩ = some (.int .i64 RES.f1) := by rw [Lib.cell_of_heap hb]; rfl
      have d2 : wr.cell? ⟨gp, 2, none⟩ = some (.int .i64 RES.f2) := by rw [Lib.cell_of_heap hb]; rfl
      have d3 : wr.cell? ⟨gp, 3, none⟩ = some (.int .i64 RES.f3) := by rw [Lib.cell_of_heap hb]; rfl
      have d4 : wr.cell? ⟨gp, 4, none⟩ = some (.string RES.f4) := by rw [Lib.cell_of_heap hb]; rfl
      have d5 : wr.cell? ⟨gp, 5, none⟩ = some (.int .i64 RES.f5) := by rw [Lib.cell_of_heap hb]; rfl
      have d6 : wr.cell? ⟨gp, 6, none⟩ = some (.int .i64 RES.f6) := by rw [Lib.cell_of_heap hb]; rfl
      clear hb hp he
      have S6 : True := trivial
      go_wp2_with (first | (clear S6; refine st29at (g := gr) rfl rfl rfl rfl rfl HZ.out rfl rfl (by first | rfl | (simp [Value.oneCell'])) ?_; intro w4 h4 hk4 hb4; have q0 := Aside0.mk h4; have q1 := Aside0.mk (hb4 _ _ HW.out n6.out); clear h4 hk4 hb4) | go_in)
      exact bodyPost_ret (results_c rfl _ _ gr 29 (cellsA RES) (0, 0) _ rfl q0.out Tryd.underlying29 rfl (by kernel_rfl)) rfl ⟨rfl, q1.out⟩
end Go.Proofs.YtlmdhpfggobogaaDoor.G

namespace Go.Proofs.YtlmdhpfggobogaaDoor.G
open Go.RowKit Go.Proofs.YtlmdhpfggobogaaDoorW.PrintWords Go.Proofs.YtlmdhpfggobogaaDoorW.PrintLast Go.Proofs.YtlmdhpfggobogaaDoorW.PrintMore
attribute [local go_sem] max2_int min2_int max_two min_two max_three min_three max_four min_four   -- for this text's walks alone
set_option linter.unusedVariables false
set_option linter.unusedSimpArgs false
def barrowlaw24_plain.l0 : Nat → List (S29) → Int → Int → Int → Int → Int → Int → Int → Int → List (S29) → Option (Int × Int × Int × Int × Int × Int × (List (S29)))
 | 0, _, _, _, _, _, _, _, _, _, _ => none
 | k + 1, x10, x11, x12, x566000, x566001, x566002, x566003, x566004, x566005, x566006 => if x12 < x11 then (if 0 ≤ x12 then (if x12 < (x10.length : Int) then ((script_Plain.f ((rd_T29 x10 x12).f0) ((rd_T29 x10 x12).f1) ((rd_T29 x10 x12).f2) ((rd_T29 x10 x12).f3) ((rd_T29 x10 x12).f4) ((rd_T29 x10 x12).f5) ((rd_T29 x10 x12).f6)).bind fun bt568 => (if x566006.length < 2199023255552 then (barrowlaw24_plain.l0 k x10 x11 (wrap64 (x12 + 1)) x566000 x566001 x566002 x566003 x566004 x566005 (x566006 ++ [(⟨bt568.1, bt568.2.1, bt568.2.2.1, bt568.2.2.2.1, bt568.2.2.2.2.1, bt568.2.2.2.2.2.1, bt568.2.2.2.2.2.2⟩ : S29)])) else (none))) else (none)) else (none)) else (some (x566000, x566001, x566002, x566003, x566004, x566005, x566006))
def barrowlaw24_plain.f (k : Nat) (a0_0 : Int) (a0_1 : Int) (a0_2 : Int) (a0_3 : Int) (a0_4 : Int) (a0_5 : Int) (l0_6 : List (S29)) : Option (Int × Int × Int × Int × Int × Int × (List (S29))) := barrowlaw24_plain.l0 k l0_6 (l0_6.length : Int) 0 a0_0 a0_1 a0_2 a0_3 a0_4 a0_5 ([] : List (S29))
def barrowlaw24_plain.T5 : Bool × List (List Nat × List Nat) := (true, [([], []), ([0], [0]), ([], []), ([2], [2]), ([3], [3]), ([1, 4, 3], [1, 4]), ([0, 1, 2, 3, 4, 5], []), ([6, 5, 5, 0, 1, 2, 3, 4, 5], [5, 6])])
def barrowlaw24_plain.B5 : List Nat := [0, 1, 0, 4, 12, 31, 63, 127]
theorem barrowlaw24_plain.tab5 : rtab .any (opsOf Tryd.f28 5) = barrowlaw24_plain.T5 := by kernel_rfl
theorem barrowlaw24_plain.bits5 : waitsOk barrowlaw24_plain.T5.2 barrowlaw24_plain.B5 = true := by kernel_rfl
set_option maxHeartbeats 8000000 in
set_option maxRecDepth 100000 in
theorem barrowlaw24_plain.calls (k : Nat) (a0_0 : Int) (a0_1 : Int) (a0_2 : Int) (a0_3 : Int) (a0_4 : Int) (a0_5 : Int) (A0_6 : Option Addr) (c0_6 : Nat) (l0_6 : List (S29)) (r1 : Int) (r2 : Int) (r3 : Int) (r4 : Int) (r5 : Int) (r6 : Int) (r7 : List (S29)) (w : World) (hr0_6 : Kd.C k29 w A0_6 l0_6.length l0_6) (hc0_6 : l0_6.length ≤ c0_6) (h : barrowlaw24_plain.f k a0_0 a0_1 a0_2 a0_3 a0_4 a0_5 l0_6 = some (r1, r2, r3, r4, r5, r6, r7)) :
  Calls Tryd.prog 28 #[.agg #[.int .i64 a0_0, .int .i64 a0_1, .int .i64 a0_2, .int .i64 a0_3, .int .i64 a0_4, .int .i64 a0_5, .slice A0_6 l0_6.length c0_6]] w fun e w' => ∃ v6_ : Value, e = .returned (.agg #[.int .i64 r1, .int .i64 r2, .int .i64 r3, .int .i64 r4, .int .i64 r5, .int .i64 r6, v6_]) ∧ Kd.R k29 29 w' w.heap.size (fun _ => True) v6_ r7 ∧ Below w.heap.size w w' := by
 have hu26 := Tryd.underlying26
 have hu23 := Tryd.underlying23
 have hu29 := Tryd.underlying29
 have HR0_6 := Aside0.mk hr0_6
 have HC0_6 := Aside0.mk hc0_6
 clear hr0_6 hc0_6
 have HB := Aside0.mk (Below.refl w.heap.size w)
 have H : (barrowlaw24_plain.l0 k l0_6 (l0_6.length : Int) 0 a0_0 a0_1 a0_2 a0_3 a0_4 a0_5 ([] : List (S29))) = some (r1, r2, r3, r4, r5, r6, r7) := h
 clear h
 have H' := Aside0.mk H
 clear H
 go_enter Tryd.func28, Tryd.ntmps28
 go_wp2_with (first | ((with_reducible refine gate_dst (N := 1) rfl ?_); refine box_event ?hg (N := 1) ?hd (cs := #[.int .i64 a0_0, .int .i64 a0_1, .int .i64 a0_2, .int .i64 a0_3, .int .i64 a0_4, .int .i64 a0_5, .slice A0_6 l0_6.length c0_6]) (t := 26) ?hr ?_; (case hd => rfl); (case hg => rfl); (case hr => first | (go_simp; done) | (go_simp; rfl)); intro gb563 hg w2 hbox hb; have n0_ := Aside0.mk (below_step (by repeat (first | (with_reducible first | exact HB.out | apply below_alloc | apply pw_below_drewN | apply below_drew1) | exact HB.out)) hb); have n1_ := Aside0.mk (hbox); have n2_ := Aside0.mk ((by rw [hg]; exact (below_size (by repeat (first | (with_reducible first | exact HB.out | apply below_alloc | apply pw_below_drewN | apply below_drew1) | exact HB.out))) : w.heap.size ≤ gb563)); have n3_ := Aside0.mk ((by rw [hg]; exact (below_size (by repeat (first | (with_reducible first | exact HB.out | apply below_alloc | apply pw_below_drewN | apply below_drew1) | exact HB.out))) : w.heap.size ≤ gb563)); clear HB; have HB := n0_; have BK563 := n1_; have GW563 := n2_; have GE563 := n3_; clear n0_ n1_ n2_ n3_; clear hb hbox hg) | ((with_reducible refine gate_dst (N := 2) rfl ?_); refine box_event ?hg (N := 2) ?hd (cs := #[.int .i64 0, .int .i64 0, .int .i64 0, .int .i64 0, .int .i64 0, .int .i64 0, .slice none 0 0]) (t := 26) ?hr ?_; (case hd => rfl); (case hg => rfl); (case hr => first | (go_simp; done) | (go_simp; rfl)); intro gb564 hg w3 hbox hb; have n0_ := Aside0.mk (blk_below (g := gb563) (o := .cells #[.int .i64 a0_0, .int .i64 a0_1, .int .i64 a0_2, .int .i64 a0_3, .int .i64 a0_4, .int .i64 a0_5, .slice A0_6 l0_6.length c0_6] 26 (0, 0)) (by (with_reducible repeat (first | refine blk_drewN ?_ _ | refine blk_drew ?_ | refine blk_alloc ?_ _)); exact BK563.out) hb); have n1_ := Aside0.mk (below_step (by repeat (first | (with_reducible first | exact HB.out | apply below_alloc | apply pw_below_drewN | apply below_drew1 | refine below_set ?_ GE563.out) | exact HB.out)) hb); have n2_ := Aside0.mk (hbox); have n3_ := Aside0.mk ((by rw [hg]; exact (below_size (by repeat (first | (with_reducible first | exact HB.out | apply below_alloc | apply pw_below_drewN | apply below_drew1 | refine below_set ?_ GE563.out) | exact HB.out))) : w.heap.size ≤ gb564)); have n4_ := Aside0.mk ((by rw [hg]; exact (below_size (by repeat (first | (with_reducible first | exact HB.out | apply below_alloc | apply pw_below_drewN | apply below_drew1 | refine below_set ?_ GE563.out) | exact HB.out))) : w.heap.size ≤ gb564)); have n5_ := Aside0.mk ((by rw [hg]; exact Nat.ne_of_lt (blk_lt (g := gb563) (o := .cells #[.int .i64 a0_0, .int .i64 a0_1, .int .i64 a0_2, .int .i64 a0_3, .int .i64 a0_4, .int .i64 a0_5, .slice A0_6 l0_6.length c0_6] 26 (0, 0)) (by (with_reducible repeat (first | refine blk_drewN ?_ _ | refine blk_drew ?_ | refine blk_alloc ?_ _)); exact BK563.out)) : gb563 ≠ gb564)); have n6_ := Aside0.mk ((by rw [hg]; exact Nat.ne_of_gt (blk_lt (g := gb563) (o := .cells #[.int .i64 a0_0, .int .i64 a0_1, .int .i64 a0_2, .int .i64 a0_3, .int .i64 a0_4, .int .i64 a0_5, .slice A0_6 l0_6.length c0_6] 26 (0, 0)) (by (with_reducible repeat (first | refine blk_drewN ?_ _ | refine blk_drew ?_ | refine blk_alloc ?_ _)); exact BK563.out)) : gb564 ≠ gb563)); clear BK563; clear HB; have BK563 := n0_; have HB := n1_; have BK564 := n2_; have GW564 := n3_; have GE564 := n4_; have NB563_564 := n5_; have NB564_563 := n6_; clear n0_ n1_ n2_ n3_ n4_ n5_ n6_; clear hb hbox hg; have hnb4 := NB563_564.out; have hnc4 := NB564_563.out; have hcz5_0 : w3.cell? ⟨gb563, 0, none⟩ = some (.int .i64 a0_0) := (blk_cell BK563.out 0).trans rfl; have hcz5_1 : w3.cell? ⟨gb563, 1, none⟩ = some (.int .i64 a0_1) := (blk_cell BK563.out 1).trans rfl; have hcz5_2 : w3.cell? ⟨gb563, 2, none⟩ = some (.int .i64 a0_2) := (blk_cell BK563.out 2).trans rfl; have hcz5_3 : w3.cell? ⟨gb563, 3, none⟩ = some (.int .i64 a0_3) := (blk_cell BK563.out 3).trans rfl; have hcz5_4 : w3.cell? ⟨gb563, 4, none⟩ = some (.int .i64 a0_4) := (blk_cell BK563.out 4).trans rfl; have hcz5_5 : w3.cell? ⟨gb563, 5, none⟩ = some (.int .i64 a0_5) := (blk_cell BK563.out 5).trans rfl; have hcz5_6 : w3.cell? ⟨gb563, 6, none⟩ = some (.slice A0_6 l0_6.length c0_6) := (blk_cell BK563.out 6).trans rfl; have hfz5_0 := blk_frozen BK563.out 0; have hfz5_1 := blk_frozen BK563.out 1; have hfz5_2 := blk_frozen BK563.out 2; have hfz5_3 := blk_frozen BK563.out 3; have hfz5_4 := blk_frozen BK563.out 4; have hfz5_5 := blk_frozen BK563.out 5; have hfz5_6 := blk_frozen BK563.out 6) | ((with_reducible refine gate_dst (N := 3) rfl ?_); refine box_event ?hg (N := 3) ?hd (cs := #[.int .i64 0, .int .i64 0, .int .i64 0, .int .i64 0, .int .i64 0, .int .i64 0, .slice none 0 0]) (t := 26) ?hr ?_; (case hd => rfl); (case hg => rfl); (case hr => first | (go_simp; done) | (go_simp; rfl)); intro gb565 hg w6 hbox hb; have n0_ := Aside0.mk (blk_below (g := gb563) (o := .cells #[.int .i64 a0_0, .int .i64 a0_1, .int .i64 a0_2, .int .i64 a0_3, .int .i64 a0_4, .int .i64 a0_5, .slice A0_6 l0_6.length c0_6] 26 (0, 0)) (by (with_reducible repeat (first | refine blk_drewN ?_ _ | refine blk_drew ?_ | refine blk_alloc ?_ _)); exact BK563.out) hb); have n1_ := Aside0.mk (blk_below (g := gb564) (o := .cells #[.int .i64 0, .int .i64 0, .int .i64 0, .int .i64 0, .int .i64 0, .int .i64 0, .slice none 0 0] 26 (0, 0)) (by (with_reducible repeat (first | refine blk_drewN ?_ _ | refine blk_drew ?_ | refine blk_alloc ?_ _)); exact BK564.out) hb); have n2_ := Aside0.mk (below_step (by repeat (first | (with_reducible first | exact HB.out | apply below_alloc | apply pw_below_drewN | apply below_drew1 | refine below_set ?_ GE563.out | refine below_set ?_ GE564.out) | exact HB.out)) hb); have n3_ := Aside0.mk (hbox); have n4_ := Aside0.mk ((by rw [hg]; exact (below_size (by repeat (first | (with_reducible first | exact HB.out | apply below_alloc | apply pw_below_drewN | apply below_drew1 | refine below_set ?_ GE563.out | refine below_set ?_ GE564.out) | exact HB.out))) : w.heap.size ≤ gb565)); have n5_ := Aside0.mk ((by rw [hg]; exact (below_size (by repeat (first | (with_reducible first | exact HB.out | apply below_alloc | apply pw_below_drewN | apply below_drew1 | refine below_set ?_ GE563.out | refine below_set ?_ GE564.out) | exact HB.out))) : w.heap.size ≤ gb565)); have n6_ := Aside0.mk ((by rw [hg]; exact Nat.ne_of_lt (blk_lt (g := gb563) (o := .cells #[.int .i64 a0_0, .int .i64 a0_1, .int .i64 a0_2, .int .i64 a0_3, .int .i64 a0_4, .int .i64 a0_5, .slice A0_6 l0_6.length c0_6] 26 (0, 0)) (by (with_reducible repeat (first | refine blk_drewN ?_ _ | refine blk_drew ?_ | refine blk_alloc ?_ _)); exact BK563.out)) : gb563 ≠ gb565)); have n7_ := Aside0.mk ((by rw [hg]; exact Nat.ne_of_gt (blk_lt (g := gb563) (o := .cells #[.int .i64 a0_0, .int .i64 a0_1, .int .i64 a0_2, .int .i64 a0_3, .int .i64 a0_4, .int .i64 a0_5, .slice A0_6 l0_6.length c0_6] 26 (0, 0)) (by (with_reducible repeat (first | refine blk_drewN ?_ _ | refine blk_drew ?_ | refine blk_alloc ?_ _)); exact BK563.out)) : gb565 ≠ gb563)); have n8_ := Aside0.mk ((by rw [hg]; exact Nat.ne_of_lt (blk_lt (g := gb564) (o := .cells #[.int .i64 0, .int .i64 0, .int .i64 0, .int .i64 0, .int .i64 0, .int .i64 0, .slice none 0 0] 26 (0, 0)) (by (with_reducible repeat (first | refine blk_drewN ?_ _ | refine blk_drew ?_ | refine blk_alloc ?_ _)); exact BK564.out)) : gb564 ≠ gb565)); have n9_ := Aside0.mk ((by rw [hg]; exact Nat.ne_of_gt (blk_lt (g := gb564) (o := .cells #[.int .i64 0, .int .i64 0, .int .i64 0, .int .i64 0, .int .i64 0, .int .i64 0, .slice none 0 0] 26 (0, 0)) (by (with_reducible repeat (first | refine blk_drewN ?_ _ | refine blk_drew ?_ | refine blk_alloc ?_ _)); exact BK564.out)) : gb565 ≠ gb564)); clear BK563; clear BK564; clear HB; have BK563 := n0_; have BK564 := n1_; have HB := n2_; have BK565 := n3_; have GW565 := n4_; have GE565 := n5_; have NB563_565 := n6_; have NB565_563 := n7_; have NB564_565 := n8_; have NB565_564 := n9_; clear n0_ n1_ n2_ n3_ n4_ n5_ n6_ n7_ n8_ n9_; clear hb hbox hg; have hnb7 := NB565_563.out; have hnc7 := NB563_565.out; have hnb8 := NB565_564.out; have hnc8 := NB564_565.out; have hcz9_0 : w6.cell? ⟨gb565, 0, none⟩ = some (.int .i64 0) := (blk_cell BK565.out 0).trans rfl; have hcz9_1 : w6.cell? ⟨gb565, 1, none⟩ = some (.int .i64 0) := (blk_cell BK565.out 1).trans rfl; have hcz9_2 : w6.cell? ⟨gb565, 2, none⟩ = some (.int .i64 0) := (blk_cell BK565.out 2).trans rfl; have hcz9_3 : w6.cell? ⟨gb565, 3, none⟩ = some (.int .i64 0) := (blk_cell BK565.out 3).trans rfl; have hcz9_4 : w6.cell? ⟨gb565, 4, none⟩ = some (.int .i64 0) := (blk_cell BK565.out 4).trans rfl; have hcz9_5 : w6.cell? ⟨gb565, 5, none⟩ = some (.int .i64 0) := (blk_cell BK565.out 5).trans rfl; have hcz9_6 : w6.cell? ⟨gb565, 6, none⟩ = some (.slice none 0 0) := (blk_cell BK565.out 6).trans rfl; have hfz9_0 := blk_frozen BK565.out 0; have hfz9_1 := blk_frozen BK565.out 1; have hfz9_2 := blk_frozen BK565.out 2; have hfz9_3 := blk_frozen BK565.out 3; have hfz9_4 := blk_frozen BK565.out 4; have hfz9_5 := blk_frozen BK565.out 5; have hfz9_6 := blk_frozen BK565.out 6; have hcz10_0 : w6.cell? ⟨gb563, 0, none⟩ = some (.int .i64 a0_0) := (blk_cell BK563.out 0).trans rfl; have hcz10_1 : w6.cell? ⟨gb563, 1, none⟩ = some (.int .i64 a0_1) := (blk_cell BK563.out 1).trans rfl; have hcz10_2 : w6.cell? ⟨gb563, 2, none⟩ = some (.int .i64 a0_2) := (blk_cell BK563.out 2).trans rfl; have hcz10_3 : w6.cell? ⟨gb563, 3, none⟩ = some (.int .i64 a0_3) := (blk_cell BK563.out 3).trans rfl; have hcz10_4 : w6.cell? ⟨gb563, 4, none⟩ = some (.int .i64 a0_4) := (blk_cell BK563.out 4).trans rfl; have hcz10_5 : w6.cell? ⟨gb563, 5, none⟩ = some (.int .i64 a0_5) := (blk_cell BK563.out 5).trans rfl; have hcz10_6 : w6.cell? ⟨gb563, 6, none⟩ = some (.slice A0_6 l0_6.length c0_6) := (blk_cell BK563.out 6).trans rfl; have hfz10_0 := blk_frozen BK563.out 0; have hfz10_1 := blk_frozen BK563.out 1; have hfz10_2 := blk_frozen BK563.out 2; have hfz10_3 := blk_frozen BK563.out 3; have hfz10_4 := blk_frozen BK563.out 4; have hfz10_5 := blk_frozen BK563.out 5; have hfz10_6 := blk_frozen BK563.out 6))
 go_loopg [12] k (fun kq v12 w' => ∃ (x12_1 : Int) (x566006_1 : List (S29)) (u566006 : Value), v12 = .int .i64 x12_1 ∧ Aside0 (barrowlaw24_plain.l0 kq l0_6 (l0_6.length : Int) x12_1 a0_0 a0_1 a0_2 a0_3 a0_4 a0_5 x566006_1 = some (r1, r2, r3, r4, r5, r6, r7)) ∧ Aside0 (kq ≤ k) ∧ Aside0 (Kd.R k29 29 w' w.heap.size (fun _ => True) u566006 x566006_1) ∧ Aside0 (w'.heap[gb563]? = some (.cells #[.int .i64 a0_0, .int .i64 a0_1, .int .i64 a0_2, .int .i64 a0_3, .int .i64 a0_4, .int .i64 a0_5, (.slice A0_6 l0_6.length c0_6)] 26 (0, 0))) ∧ Aside0 (w'.heap[gb564]? = some (.cells #[.int .i64 0, .int .i64 0, .int .i64 0, .int .i64 0, .int .i64 0, .int .i64 0, (.slice none 0 0)] 26 (0, 0))) ∧ Aside0 (w'.heap[gb565]? = some (.cells #[.int .i64 a0_0, .int .i64 a0_1, .int .i64 a0_2, .int .i64 a0_3, .int .i64 a0_4, .int .i64 a0_5, u566006] 26 (0, 0))) ∧ Aside0 (Below w.heap.size w w'))
 case atStart => exact ⟨(0), (([] : List (S29))), (.slice none 0 0), (by first | rfl | (simp; done) | (simp [*]; done)), H', ⟨Nat.le_refl _⟩, ⟨by first | exact Kd.R_nil _ _ _ _ _ | exact Kd.N_nil _ _ _ _ _ | exact Kd.V_nil _ _ _ _ _ | exact Kd.Q_nil _ _ _ _ _ | exact Kd.S_nil _ _ _ _ _⟩, ⟨by (with_reducible repeat (first | refine blk_drewN ?_ _ | refine blk_drew ?_ | refine blk_alloc ?_ _)); refine blk_far ?_ NB563_565.out _; (with_reducible repeat (first | refine blk_drewN ?_ _ | refine blk_drew ?_ | refine blk_alloc ?_ _)); refine blk_far ?_ NB563_565.out _; (with_reducible repeat (first | refine blk_drewN ?_ _ | refine blk_drew ?_ | refine blk_alloc ?_ _)); refine blk_far ?_ NB563_565.out _; (with_reducible repeat (first | refine blk_drewN ?_ _ | refine blk_drew ?_ | refine blk_alloc ?_ _)); refine blk_far ?_ NB563_565.out _; (with_reducible repeat (first | refine blk_drewN ?_ _ | refine blk_drew ?_ | refine blk_alloc ?_ _)); refine blk_far ?_ NB563_565.out _; (with_reducible repeat (first | refine blk_drewN ?_ _ | refine blk_drew ?_ | refine blk_alloc ?_ _)); refine blk_far ?_ NB563_565.out _; (with_reducible repeat (first | refine blk_drewN ?_ _ | refine blk_drew ?_ | refine blk_alloc ?_ _)); refine blk_far ?_ NB563_565.out _; (with_reducible repeat (first | refine blk_drewN ?_ _ | refine blk_drew ?_ | refine blk_alloc ?_ _)); exact BK563.out⟩, ⟨by (with_reducible repeat (first | refine blk_drewN ?_ _ | refine blk_drew ?_ | refine blk_alloc ?_ _)); refine blk_far ?_ NB564_565.out _; (with_reducible repeat (first | refine blk_drewN ?_ _ | refine blk_drew ?_ | refine blk_alloc ?_ _)); refine blk_far ?_ NB564_565.out _; (with_reducible repeat (first | refine blk_drewN ?_ _ | refine blk_drew ?_ | refine blk_alloc ?_ _)); refine blk_far ?_ NB564_565.out _; (with_reducible repeat (first | refine blk_drewN ?_ _ | refine blk_drew ?_ | refine blk_alloc ?_ _)); refine blk_far ?_ NB564_565.out _; (with_reducible repeat (first | refine blk_drewN ?_ _ | refine blk_drew ?_ | refine blk_alloc ?_ _)); refine blk_far ?_ NB564_565.out _; (with_reducible repeat (first | refine blk_drewN ?_ _ | refine blk_drew ?_ | refine blk_alloc ?_ _)); refine blk_far ?_ NB564_565.out _; (with_reducible repeat (first | refine blk_drewN ?_ _ | refine blk_drew ?_ | refine blk_alloc ?_ _)); refine blk_far ?_ NB564_565.out _; (with_reducible repeat (first | refine blk_drewN ?_ _ | refine blk_drew ?_ | refine blk_alloc ?_ _)); exact BK564.out⟩, ⟨by (with_reducible repeat (first | refine blk_drewN ?_ _ | refine blk_drew ?_ | refine blk_alloc ?_ _)); refine blk_put (cs := #[.int .i64 a0_0, .int .i64 a0_1, .int .i64 a0_2, .int .i64 a0_3, .int .i64 a0_4, .int .i64 a0_5, .slice none 0 0]) ?_ 6 _ rfl; (with_reducible repeat (first | refine blk_drewN ?_ _ | refine blk_drew ?_ | refine blk_alloc ?_ _)); refine blk_put (cs := #[.int .i64 a0_0, .int .i64 a0_1, .int .i64 a0_2, .int .i64 a0_3, .int .i64 a0_4, .int .i64 0, .slice none 0 0]) ?_ 5 _ rfl; (with_reducible repeat (first | refine blk_drewN ?_ _ | refine blk_drew ?_ | refine blk_alloc ?_ _)); refine blk_put (cs := #[.int .i64 a0_0, .int .i64 a0_1, .int .i64 a0_2, .int .i64 a0_3, .int .i64 0, .int .i64 0, .slice none 0 0]) ?_ 4 _ rfl; (with_reducible repeat (first | refine blk_drewN ?_ _ | refine blk_drew ?_ | refine blk_alloc ?_ _)); refine blk_put (cs := #[.int .i64 a0_0, .int .i64 a0_1, .int .i64 a0_2, .int .i64 0, .int .i64 0, .int .i64 0, .slice none 0 0]) ?_ 3 _ rfl; (with_reducible repeat (first | refine blk_drewN ?_ _ | refine blk_drew ?_ | refine blk_alloc ?_ _)); refine blk_put (cs := #[.int .i64 a0_0, .int .i64 a0_1, .int .i64 0, .int .i64 0, .int .i64 0, .int .i64 0, .slice none 0 0]) ?_ 2 _ rfl; (with_reducible repeat (first | refine blk_drewN ?_ _ | refine blk_drew ?_ | refine blk_alloc ?_ _)); refine blk_put (cs := #[.int .i64 a0_0, .int .i64 0, .int .i64 0, .int .i64 0, .int .i64 0, .int .i64 0, .slice none 0 0]) ?_ 1 _ rfl; (with_reducible repeat (first | refine blk_drewN ?_ _ | refine blk_drew ?_ | refine blk_alloc ?_ _)); refine blk_put (cs := #[.int .i64 0, .int .i64 0, .int .i64 0, .int .i64 0, .int .i64 0, .int .i64 0, .slice none 0 0]) ?_ 0 _ rfl; (with_reducible repeat (first | refine blk_drewN ?_ _ | refine blk_drew ?_ | refine blk_alloc ?_ _)); exact BK565.out⟩, ⟨by repeat (first | (with_reducible first | exact HB.out | apply below_alloc | apply pw_below_drewN | apply below_drew1 | refine below_set ?_ GE563.out | refine below_set ?_ GE564.out | refine below_set ?_ GE565.out) | exact HB.out)⟩⟩
 case round =>
  clear H'
  try clear c2
  try clear p2
  try clear c4
  try clear c7
  try clear c8
  try clear hcz10_0
  try clear hcz10_1
  try clear hcz10_2
  try clear hcz10_3
  try clear hcz10_4
  try clear hcz10_5
  try clear hcz10_6
  try clear hcz5_0
  try clear hcz5_1
  try clear hcz5_2
  try clear hcz5_3
  try clear hcz5_4
  try clear hcz5_5
  try clear hcz5_6
  try clear hcz9_0
  try clear hcz9_1
  try clear hcz9_2
  try clear hcz9_3
  try clear hcz9_4
  try clear hcz9_5
  try clear hcz9_6
  try clear hfz10_0
  try clear hfz10_1
  try clear hfz10_2
  try clear hfz10_3
  try clear hfz10_4
  try clear hfz10_5
  try clear hfz10_6
  try clear hfz5_0
  try clear hfz5_1
  try clear hfz5_2
  try clear hfz5_3
  try clear hfz5_4
  try clear hfz5_5
  try clear hfz5_6
  try clear hfz9_0
  try clear hfz9_1
  try clear hfz9_2
  try clear hfz9_3
  try clear hfz9_4
  try clear hfz9_5
  try clear hfz9_6
  obtain ⟨x12_1, x566006_1, u566006, rfl, HA, HK1, HO_566006, BK563, BK564, BK565, HB⟩ := hrel
  cases gk with
  | zero => exact absurd HA.out (by simp [barrowlaw24_plain.l0])
  | succ k1 =>
   have H := HA.out
   clear HA
   simp only [barrowlaw24_plain.l0] at H
   by_cases c11 : x12_1 < (l0_6.length : Int)
   ·rw [if_pos c11] at H
    have c11b0 : decide (x12_1 < (l0_6.length : Int)) = true := decide_eq_true c11
    clear c11
    by_cases c12 : 0 ≤ x12_1
    ·rw [if_pos c12] at H
     have c12b0 : decide (0 ≤ x12_1) = true := decide_eq_true c12
     clear c12
     by_cases c13 : x12_1 < (l0_6.length : Int)
     ·rw [if_pos c13] at H
      have c13b0 : decide (x12_1 < (l0_6.length : Int)) = true := decide_eq_true c13
      clear c13
      replace H := Option.bind_eq_some_iff.mp H
      obtain ⟨⟨t568, t569, t570, t571, t572, t573, t574⟩, A140, H⟩ := H
      replace H : (if x566006_1.length < 2199023255552 then (barrowlaw24_plain.l0 k1 l0_6 (l0_6.length : Int) (wrap64 (x12_1 + 1)) a0_0 a0_1 a0_2 a0_3 a0_4 a0_5 (x566006_1 ++ [(⟨t568, t569, t570, t571, t572, t573, t574⟩ : S29)])) else (none)) = some (r1, r2, r3, r4, r5, r6, r7) := H
      have A14 := Aside0.mk A140
      clear A140
      by_cases c15 : x566006_1.length < 2199023255552
      ·rw [if_pos c15] at H
       have LMc15 := Aside0.mk c15
       clear c15
       obtain ⟨y575, hy575⟩ : ∃ y_ : List (S29), y_ = (x566006_1 ++ [(⟨t568, t569, t570, t571, t572, t573, t574⟩ : S29)]) := ⟨_, rfl⟩
       replace H : (barrowlaw24_plain.l0 k1 l0_6 (l0_6.length : Int) (wrap64 (x12_1 + 1)) a0_0 a0_1 a0_2 a0_3 a0_4 a0_5 y575) = some (r1, r2, r3, r4, r5, r6, r7) := by first | (rw [hy575]; with_reducible exact H) | (have H2_ := (Option.bind_some _ _).symm.trans H; rw [hy575]; with_reducible exact H2_) | (have H2_ := (Option.bind_some _ _).symm.trans H; with_reducible exact H2_) | with_reducible exact H | (rw [hy575]; exact H) | exact H
       have Ny575 := Aside0.mk hy575
       clear hy575
       have H' := Aside0.mk H
       clear H
       have p566 : 0 ≤ (x12_1 : Int) := of_decide_eq_true (by first | (with_reducible assumption) | assumption)
       have q566 : x12_1 < (l0_6.length : Int) := of_decide_eq_true (by first | (with_reducible assumption) | assumption)
       obtain ⟨ad566, e566, hx566_0, hx566_1, hx566_2, hx566_3, hx566_4, hx566_5, hx566_6⟩ := at_T29 HR0_6.out x12_1 p566 q566
       cases e566
       replace hx566_0 := (HB.out.cell (World.block_lt_of_cell? w _ hx566_0)).trans hx566_0
       replace hx566_1 := (HB.out.cell (World.block_lt_of_cell? w _ hx566_1)).trans hx566_1
       replace hx566_2 := (HB.out.cell (World.block_lt_of_cell? w _ hx566_2)).trans hx566_2
       replace hx566_3 := (HB.out.cell (World.block_lt_of_cell? w _ hx566_3)).trans hx566_3
       replace hx566_4 := (HB.out.cell (World.block_lt_of_cell? w _ hx566_4)).trans hx566_4
       replace hx566_5 := (HB.out.cell (World.block_lt_of_cell? w _ hx566_5)).trans hx566_5
       replace hx566_6 := (HB.out.cell (World.block_lt_of_cell? w _ hx566_6)).trans hx566_6
       replace p566 := eq_true p566
       replace q566 := eq_true q566
       try go_wp2_with (first | ((with_reducible refine gate_dst (N := 5) rfl ?_); refine box_event ?hg (N := 5) ?hd (cs := #[.int .i64 0, .int .i64 0, .int .i64 0, .int .i64 0, .string (⟨#[]⟩ : ByteArray), .int .i64 0, .int .i64 0]) (t := 29) ?hr ?_; (case hd => rfl); (case hg => rfl); (case hr => first | (go_simp; done) | (go_simp; rfl)); intro gb567 hg w16 hbox hb; have n0_ := Aside0.mk (Kd.R_below (Kd.R_elderB (by (with_reducible repeat (first | apply Kd.R_alloc | apply Kd.R_drewN | apply Kd.R_drew)); exact HO_566006.out) gb567 (Nat.le_of_eq hg.symm)) hb); have n1_ := Aside0.mk (blk_below (g := gb563) (o := .cells #[.int .i64 a0_0, .int .i64 a0_1, .int .i64 a0_2, .int .i64 a0_3, .int .i64 a0_4, .int .i64 a0_5, .slice (some ad566) l0_6.length c0_6] 26 (0, 0)) (by (with_reducible repeat (first | refine blk_drewN ?_ _ | refine blk_drew ?_ | refine blk_alloc ?_ _)); exact BK563.out) hb); have n2_ := Aside0.mk (blk_below (g := gb564) (o := .cells #[.int .i64 0, .int .i64 0, .int .i64 0, .int .i64 0, .int .i64 0, .int .i64 0, .slice none 0 0] 26 (0, 0)) (by (with_reducible repeat (first | refine blk_drewN ?_ _ | refine blk_drew ?_ | refine blk_alloc ?_ _)); exact BK564.out) hb); have n3_ := Aside0.mk (blk_below (g := gb565) (o := .cells #[.int .i64 a0_0, .int .i64 a0_1, .int .i64 a0_2, .int .i64 a0_3, .int .i64 a0_4, .int .i64 a0_5, u566006] 26 (0, 0)) (by (with_reducible repeat (first | refine blk_drewN ?_ _ | refine blk_drew ?_ | refine blk_alloc ?_ _)); exact BK565.out) hb); have n4_ := Aside0.mk (below_step (by repeat (first | (with_reducible first | exact HB.out | apply below_alloc | apply pw_below_drewN | apply below_drew1 | refine below_set ?_ GE563.out | refine below_set ?_ GE564.out | refine below_set ?_ GE565.out) | exact HB.out)) hb); have n5_ := Aside0.mk (hbox); have n6_ := Aside0.mk ((by rw [hg]; exact (below_size (by repeat (first | (with_reducible first | exact HB.out | apply below_alloc | apply pw_below_drewN | apply below_drew1 | refine below_set ?_ GE563.out | refine below_set ?_ GE564.out | refine below_set ?_ GE565.out) | exact HB.out))) : w.heap.size ≤ gb567)); have n7_ := Aside0.mk ((by rw [hg]; exact (below_size (by repeat (first | (with_reducible first | exact HB.out | apply below_alloc | apply pw_below_drewN | apply below_drew1 | refine below_set ?_ GE563.out | refine below_set ?_ GE564.out | refine below_set ?_ GE565.out) | exact HB.out))) : w.heap.size ≤ gb567)); have n8_ := Aside0.mk ((by rw [hg]; exact Nat.ne_of_lt (blk_lt (g := gb563) (o := .cells #[.int .i64 a0_0, .int .i64 a0_1, .int .i64 a0_2, .int .i64 a0_3, .int .i64 a0_4, .int .i64 a0_5, .slice (some ad566) l0_6.length c0_6] 26 (0, 0)) (by (with_reducible repeat (first | refine blk_drewN ?_ _ | refine blk_drew ?_ | refine blk_alloc ?_ _)); exact BK563.out)) : gb563 ≠ gb567)); have n9_ := Aside0.mk ((by rw [hg]; exact Nat.ne_of_gt (blk_lt (g := gb563) (o := .cells #[.int .i64 a0_0, .int .i64 a0_1, .int .i64 a0_2, .int .i64 a0_3, .int .i64 a0_4, .int .i64 a0_5, .slice (some ad566) l0_6.length c0_6] 26 (0, 0)) (by (with_reducible repeat (first | refine blk_drewN ?_ _ | refine blk_drew ?_ | refine blk_alloc ?_ _)); exact BK563.out)) : gb567 ≠ gb563)); have n10_ := Aside0.mk ((by rw [hg]; exact Nat.ne_of_lt (blk_lt (g := gb564) (o := .cells #[.int .i64 0, .int .i64 0, .int .i64 0, .int .i64 0, .int .i64 0, .int .i64 0, .slice none 0 0] 26 (0, 0)) (by (with_reducible repeat (first | refine blk_drewN ?_ _ | refine blk_drew ?_ | refine blk_alloc ?_ _)); exact BK564.out)) : gb564 ≠ gb567)); have n11_ := Aside0.mk ((by rw [hg]; exact Nat.ne_of_gt (blk_lt (g := gb564) (o := .cells #[.int .i64 0, .int .i64 0, .int .i64 0, .int .i64 0, .int .i64 0, .int .i64 0, .slice none 0 0] 26 (0, 0)) (by (with_reducible repeat (first | refine blk_drewN ?_ _ | refine blk_drew ?_ | refine blk_alloc ?_ _)); exact BK564.out)) : gb567 ≠ gb564)); have n12_ := Aside0.mk ((by rw [hg]; exact Nat.ne_of_lt (blk_lt (g := gb565) (o := .cells #[.int .i64 a0_0, .int .i64 a0_1, .int .i64 a0_2, .int .i64 a0_3, .int .i64 a0_4, .int .i64 a0_5, u566006] 26 (0, 0)) (by (with_reducible repeat (first | refine blk_drewN ?_ _ | refine blk_drew ?_ | refine blk_alloc ?_ _)); exact BK565.out)) : gb565 ≠ gb567)); have n13_ := Aside0.mk ((by rw [hg]; exact Nat.ne_of_gt (blk_lt (g := gb565) (o := .cells #[.int .i64 a0_0, .int .i64 a0_1, .int .i64 a0_2, .int .i64 a0_3, .int .i64 a0_4, .int .i64 a0_5, u566006] 26 (0, 0)) (by (with_reducible repeat (first | refine blk_drewN ?_ _ | refine blk_drew ?_ | refine blk_alloc ?_ _)); exact BK565.out)) : gb567 ≠ gb565)); clear HO_566006; clear BK563; clear BK564; clear BK565; clear HB; have HO_566006 := n0_; have BK563 := n1_; have BK564 := n2_; have BK565 := n3_; have HB := n4_; have BK567 := n5_; have GW567 := n6_; have GE567 := n7_; have NB563_567 := n8_; have NB567_563 := n9_; have NB564_567 := n10_; have NB567_564 := n11_; have NB565_567 := n12_; have NB567_565 := n13_; clear n0_ n1_ n2_ n3_ n4_ n5_ n6_ n7_ n8_ n9_ n10_ n11_ n12_ n13_; clear hb hbox hg; have hnb17 := NB567_563.out; have hnc17 := NB563_567.out; have hnb18 := NB567_564.out; have hnc18 := NB564_567.out; have hnb19 := NB567_565.out; have hnc19 := NB565_567.out; have hcz20_0 : w16.cell? ⟨gb567, 0, none⟩ = some (.int .i64 0) := (blk_cell BK567.out 0).trans rfl; have hcz20_1 : w16.cell? ⟨gb567, 1, none⟩ = some (.int .i64 0) := (blk_cell BK567.out 1).trans rfl; have hcz20_2 : w16.cell? ⟨gb567, 2, none⟩ = some (.int .i64 0) := (blk_cell BK567.out 2).trans rfl; have hcz20_3 : w16.cell? ⟨gb567, 3, none⟩ = some (.int .i64 0) := (blk_cell BK567.out 3).trans rfl; have hcz20_4 : w16.cell? ⟨gb567, 4, none⟩ = some (.string (⟨#[]⟩ : ByteArray)) := (blk_cell BK567.out 4).trans rfl; have hcz20_5 : w16.cell? ⟨gb567, 5, none⟩ = some (.int .i64 0) := (blk_cell BK567.out 5).trans rfl; have hcz20_6 : w16.cell? ⟨gb567, 6, none⟩ = some (.int .i64 0) := (blk_cell BK567.out 6).trans rfl; have hfz20_0 := blk_frozen BK567.out 0; have hfz20_1 := blk_frozen BK567.out 1; have hfz20_2 := blk_frozen BK567.out 2; have hfz20_3 := blk_frozen BK567.out 3; have hfz20_4 := blk_frozen BK567.out 4; have hfz20_5 := blk_frozen BK567.out 5; have hfz20_6 := blk_frozen BK567.out 6))
       have n0_ : Aside0 (Kd.R k29 29 (((((((w16.setCell ⟨gb567, 0, none⟩ (.int .i64 ((rd_T29 l0_6 x12_1).f0))).setCell ⟨gb567, 1, none⟩ (.int .i64 ((rd_T29 l0_6 x12_1).f1))).setCell ⟨gb567, 2, none⟩ (.int .i64 ((rd_T29 l0_6 x12_1).f2))).setCell ⟨gb567, 3, none⟩ (.int .i64 ((rd_T29 l0_6 x12_1).f3))).setCell ⟨gb567, 4, none⟩ (.string ((rd_T29 l0_6 x12_1).f4))).setCell ⟨gb567, 5, none⟩ (.int .i64 ((rd_T29 l0_6 x12_1).f5))).setCell ⟨gb567, 6, none⟩ (.int .i64 ((rd_T29 l0_6 x12_1).f6))) w.heap.size (fun k_ => k_ ≠ gb567) u566006 x566006_1) := ⟨by (with_reducible repeat (first | apply Kd.R_alloc | apply Kd.R_drewN | apply Kd.R_drew)); exact Kd.R_mono (Kd.R_far (p := ⟨gb567, 6, none⟩) (Kd.R_far (p := ⟨gb567, 5, none⟩) (Kd.R_far (p := ⟨gb567, 4, none⟩) (Kd.R_far (p := ⟨gb567, 3, none⟩) (Kd.R_far (p := ⟨gb567, 2, none⟩) (Kd.R_far (p := ⟨gb567, 1, none⟩) (Kd.R_far (p := ⟨gb567, 0, none⟩) (Kd.R_mono HO_566006.out (fun k_ hk => (⟨hk, hk.2⟩ : _ ∧ k_ ≠ gb567))) (fun _ hk => hk.2) (.int .i64 ((rd_T29 l0_6 x12_1).f0))) (fun _ hk => hk.2) (.int .i64 ((rd_T29 l0_6 x12_1).f1))) (fun _ hk => hk.2) (.int .i64 ((rd_T29 l0_6 x12_1).f2))) (fun _ hk => hk.2) (.int .i64 ((rd_T29 l0_6 x12_1).f3))) (fun _ hk => hk.2) (.string ((rd_T29 l0_6 x12_1).f4))) (fun _ hk => hk.2) (.int .i64 ((rd_T29 l0_6 x12_1).f5))) (fun _ hk => hk.2) (.int .i64 ((rd_T29 l0_6 x12_1).f6))) (fun _ hk => hk.1.2)⟩
       have n1_ : Aside0 ((((((((w16.setCell ⟨gb567, 0, none⟩ (.int .i64 ((rd_T29 l0_6 x12_1).f0))).setCell ⟨gb567, 1, none⟩ (.int .i64 ((rd_T29 l0_6 x12_1).f1))).setCell ⟨gb567, 2, none⟩ (.int .i64 ((rd_T29 l0_6 x12_1).f2))).setCell ⟨gb567, 3, none⟩ (.int .i64 ((rd_T29 l0_6 x12_1).f3))).setCell ⟨gb567, 4, none⟩ (.string ((rd_T29 l0_6 x12_1).f4))).setCell ⟨gb567, 5, none⟩ (.int .i64 ((rd_T29 l0_6 x12_1).f5))).setCell ⟨gb567, 6, none⟩ (.int .i64 ((rd_T29 l0_6 x12_1).f6))).heap[gb563]? = some (.cells #[.int .i64 a0_0, .int .i64 a0_1, .int .i64 a0_2, .int .i64 a0_3, .int .i64 a0_4, .int .i64 a0_5, .slice (some ad566) l0_6.length c0_6] 26 (0, 0))) := ⟨by (with_reducible repeat (first | refine blk_drewN ?_ _ | refine blk_drew ?_ | refine blk_alloc ?_ _)); refine blk_far ?_ NB563_567.out _; (with_reducible repeat (first | refine blk_drewN ?_ _ | refine blk_drew ?_ | refine blk_alloc ?_ _)); refine blk_far ?_ NB563_567.out _; (with_reducible repeat (first | refine blk_drewN ?_ _ | refine blk_drew ?_ | refine blk_alloc ?_ _)); refine blk_far ?_ NB563_567.out _; (with_reducible repeat (first | refine blk_drewN ?_ _ | refine blk_drew ?_ | refine blk_alloc ?_ _)); refine blk_far ?_ NB563_567.out _; (with_reducible repeat (first | refine blk_drewN ?_ _ | refine blk_drew ?_ | refine blk_alloc ?_ _)); refine blk_far ?_ NB563_567.out _; (with_reducible repeat (first | refine blk_drewN ?_ _ | refine blk_drew ?_ | refine blk_alloc ?_ _)); refine blk_far ?_ NB563_567.out _; (with_reducible repeat (first | refine blk_drewN ?_ _ | refine blk_drew ?_ | refine blk_alloc ?_ _)); refine blk_far ?_ NB563_567.out _; (with_reducible repeat (first | refine blk_drewN ?_ _ | refine blk_drew ?_ | refine blk_alloc ?_ _)); exact BK563.out⟩
       have n2_ : Aside0 ((((((((w16.setCell ⟨gb567, 0, none⟩ (.int .i64 ((rd_T29 l0_6 x12_1).f0))).setCell ⟨gb567, 1, none⟩ (.int .i64 ((rd_T29 l0_6 x12_1).f1))).setCell ⟨gb567, 2, none⟩ (.int .i64 ((rd_T29 l0_6 x12_1).f2))).setCell ⟨gb567, 3, none⟩ (.int .i64 ((rd_T29 l0_6 x12_1).f3))).setCell ⟨gb567, 4, none⟩ (.string ((rd_T29 l0_6 x12_1).f4))).setCell ⟨gb567, 5, none⟩ (.int .i64 ((rd_T29 l0_6 x12_1).f5))).setCell ⟨gb567, 6, none⟩ (.int .i64 ((rd_T29 l0_6 x12_1).f6))).heap[gb564]? = some (.cells #[.int .i64 0, .int .i64 0, .int .i64 0, .int .i64 0, .int .i64 0, .int .i64 0, .slice none 0 0] 26 (0, 0))) := ⟨by (with_reducible repeat (first | refine blk_drewN ?_ _ | refine blk_drew ?_ | refine blk_alloc ?_ _)); refine blk_far ?_ NB564_567.out _; (with_reducible repeat (first | refine blk_drewN ?_ _ | refine blk_drew ?_ | refine blk_alloc ?_ _)); refine blk_far ?_ NB564_567.out _; (with_reducible repeat (first | refine blk_drewN ?_ _ | refine blk_drew ?_ | refine blk_alloc ?_ _)); refine blk_far ?_ NB564_567.out _; (with_reducible repeat (first | refine blk_drewN ?_ _ | refine blk_drew ?_ | refine blk_alloc ?_ _)); refine blk_far ?_ NB564_567.out _; (with_reducible repeat (first | refine blk_drewN ?_ _ | refine blk_drew ?_ | refine blk_alloc ?_ _)); refine blk_far ?_ NB564_567.out _; (with_reducible repeat (first | refine blk_drewN ?_ _ | refine blk_drew ?_ | refine blk_alloc ?_ _)); refine blk_far ?_ NB564_567.out _; (with_reducible repeat (first | refine blk_drewN ?_ _ | refine blk_drew ?_ | refine blk_alloc ?_ _)); refine blk_far ?_ NB564_567.out _; (with_reducible repeat (first | refine blk_drewN ?_ _ | refine blk_drew ?_ | refine blk_alloc ?_ _)); exact BK564.out⟩
       have n3_ : Aside0 ((((((((w16.setCell ⟨gb567, 0, none⟩ (.int .i64 ((rd_T29 l0_6 x12_1).f0))).setCell ⟨gb567, 1, none⟩ (.int .i64 ((rd_T29 l0_6 x12_1).f1))).setCell ⟨gb567, 2, none⟩ (.int .i64 ((rd_T29 l0_6 x12_1).f2))).setCell ⟨gb567, 3, none⟩ (.int .i64 ((rd_T29 l0_6 x12_1).f3))).setCell ⟨gb567, 4, none⟩ (.string ((rd_T29 l0_6 x12_1).f4))).setCell ⟨gb567, 5, none⟩ (.int .i64 ((rd_T29 l0_6 x12_1).f5))).setCell ⟨gb567, 6, none⟩ (.int .i64 ((rd_T29 l0_6 x12_1).f6))).heap[gb565]? = some (.cells #[.int .i64 a0_0, .int .i64 a0_1, .int .i64 a0_2, .int .i64 a0_3, .int .i64 a0_4, .int .i64 a0_5, u566006] 26 (0, 0))) := ⟨by (with_reducible repeat (first | refine blk_drewN ?_ _ | refine blk_drew ?_ | refine blk_alloc ?_ _)); refine blk_far ?_ NB565_567.out _; (with_reducible repeat (first | refine blk_drewN ?_ _ | refine blk_drew ?_ | refine blk_alloc ?_ _)); refine blk_far ?_ NB565_567.out _; (with_reducible repeat (first | refine blk_drewN ?_ _ | refine blk_drew ?_ | refine blk_alloc ?_ _)); refine blk_far ?_ NB565_567.out _; (with_reducible repeat (first | refine blk_drewN ?_ _ | refine blk_drew ?_ | refine blk_alloc ?_ _)); refine blk_far ?_ NB565_567.out _; (with_reducible repeat (first | refine blk_drewN ?_ _ | refine blk_drew ?_ | refine blk_alloc ?_ _)); refine blk_far ?_ NB565_567.out _; (with_reducible repeat (first | refine blk_drewN ?_ _ | refine blk_drew ?_ | refine blk_alloc ?_ _)); refine blk_far ?_ NB565_567.out _; (with_reducible repeat (first | refine blk_drewN ?_ _ | refine blk_drew ?_ | refine blk_alloc ?_ _)); refine blk_far ?_ NB565_567.out _; (with_reducible repeat (first | refine blk_drewN ?_ _ | refine blk_drew ?_ | refine blk_alloc ?_ _)); exact BK565.out⟩
       have n4_ : Aside0 ((((((((w16.setCell ⟨gb567, 0, none⟩ (.int .i64 ((rd_T29 l0_6 x12_1).f0))).setCell ⟨gb567, 1, none⟩ (.int .i64 ((rd_T29 l0_6 x12_1).f1))).setCell ⟨gb567, 2, none⟩ (.int .i64 ((rd_T29 l0_6 x12_1).f2))).setCell ⟨gb567, 3, none⟩ (.int .i64 ((rd_T29 l0_6 x12_1).f3))).setCell ⟨gb567, 4, none⟩ (.string ((rd_T29 l0_6 x12_1).f4))).setCell ⟨gb567, 5, none⟩ (.int .i64 ((rd_T29 l0_6 x12_1).f5))).setCell ⟨gb567, 6, none⟩ (.int .i64 ((rd_T29 l0_6 x12_1).f6))).heap[gb567]? = some (.cells #[.int .i64 ((rd_T29 l0_6 x12_1).f0), .int .i64 ((rd_T29 l0_6 x12_1).f1), .int .i64 ((rd_T29 l0_6 x12_1).f2), .int .i64 ((rd_T29 l0_6 x12_1).f3), .string ((rd_T29 l0_6 x12_1).f4), .int .i64 ((rd_T29 l0_6 x12_1).f5), .int .i64 ((rd_T29 l0_6 x12_1).f6)] 29 (0, 0))) := ⟨by (with_reducible repeat (first | refine blk_drewN ?_ _ | refine blk_drew ?_ | refine blk_alloc ?_ _)); refine blk_put (cs := #[.int .i64 ((rd_T29 l0_6 x12_1).f0), .int .i64 ((rd_T29 l0_6 x12_1).f1), .int .i64 ((rd_T29 l0_6 x12_1).f2), .int .i64 ((rd_T29 l0_6 x12_1).f3), .string ((rd_T29 l0_6 x12_1).f4), .int .i64 ((rd_T29 l0_6 x12_1).f5), .int .i64 0]) ?_ 6 _ rfl; (with_reducible repeat (first | refine blk_drewN ?_ _ | refine blk_drew ?_ | refine blk_alloc ?_ _)); refine blk_put (cs := #[.int .i64 ((rd_T29 l0_6 x12_1).f0), .int .i64 ((rd_T29 l0_6 x12_1).f1), .int .i64 ((rd_T29 l0_6 x12_1).f2), .int .i64 ((rd_T29 l0_6 x12_1).f3), .string ((rd_T29 l0_6 x12_1).f4), .int .i64 0, .int .i64 0]) ?_ 5 _ rfl; (with_reducible repeat (first | refine blk_drewN ?_ _ | refine blk_drew ?_ | refine blk_alloc ?_ _)); refine blk_put (cs := #[.int .i64 ((rd_T29 l0_6 x12_1).f0), .int .i64 ((rd_T29 l0_6 x12_1).f1), .int .i64 ((rd_T29 l0_6 x12_1).f2), .int .i64 ((rd_T29 l0_6 x12_1).f3), .string (⟨#[]⟩ : ByteArray), .int .i64 0, .int .i64 0]) ?_ 4 _ rfl; (with_reducible repeat (first | refine blk_drewN ?_ _ | refine blk_drew ?_ | refine blk_alloc ?_ _)); refine blk_put (cs := #[.int .i64 ((rd_T29 l0_6 x12_1).f0), .int .i64 ((rd_T29 l0_6 x12_1).f1), .int .i64 ((rd_T29 l0_6 x12_1).f2), .int .i64 0, .string (⟨#[]⟩ : ByteArray), .int .i64 0, .int .i64 0]) ?_ 3 _ rfl; (with_reducible repeat (first | refine blk_drewN ?_ _ | refine blk_drew ?_ | refine blk_alloc ?_ _)); refine blk_put (cs := #[.int .i64 ((rd_T29 l0_6 x12_1).f0), .int .i64 ((rd_T29 l0_6 x12_1).f1), .int .i64 0, .int .i64 0, .string (⟨#[]⟩ : ByteArray), .int .i64 0, .int .i64 0]) ?_ 2 _ rfl; (with_reducible repeat (first | refine blk_drewN ?_ _ | refine blk_drew ?_ | refine blk_alloc ?_ _)); refine blk_put (cs := #[.int .i64 ((rd_T29 l0_6 x12_1).f0), .int .i64 0, .int .i64 0, .int .i64 0, .string (⟨#[]⟩ : ByteArray), .int .i64 0, .int .i64 0]) ?_ 1 _ rfl; (with_reducible repeat (first | refine blk_drewN ?_ _ | refine blk_drew ?_ | refine blk_alloc ?_ _)); refine blk_put (cs := #[.int .i64 0, .int .i64 0, .int .i64 0, .int .i64 0, .string (⟨#[]⟩ : ByteArray), .int .i64 0, .int .i64 0]) ?_ 0 _ rfl; (with_reducible repeat (first | refine blk_drewN ?_ _ | refine blk_drew ?_ | refine blk_alloc ?_ _)); exact BK567.out⟩
       have n5_ : Aside0 (Below w.heap.size w (((((((w16.setCell ⟨gb567, 0, none⟩ (.int .i64 ((rd_T29 l0_6 x12_1).f0))).setCell ⟨gb567, 1, none⟩ (.int .i64 ((rd_T29 l0_6 x12_1).f1))).setCell ⟨gb567, 2, none⟩ (.int .i64 ((rd_T29 l0_6 x12_1).f2))).setCell ⟨gb567, 3, none⟩ (.int .i64 ((rd_T29 l0_6 x12_1).f3))).setCell ⟨gb567, 4, none⟩ (.string ((rd_T29 l0_6 x12_1).f4))).setCell ⟨gb567, 5, none⟩ (.int .i64 ((rd_T29 l0_6 x12_1).f5))).setCell ⟨gb567, 6, none⟩ (.int .i64 ((rd_T29 l0_6 x12_1).f6)))) := ⟨by repeat (first | (with_reducible first | exact HB.out | apply below_alloc | apply pw_below_drewN | apply below_drew1 | refine below_set ?_ GE563.out | refine below_set ?_ GE564.out | refine below_set ?_ GE565.out | refine below_set ?_ GE567.out) | exact HB.out)⟩
       (try clear HO_566006)
       (try clear BK563)
       (try clear BK564)
       (try clear BK565)
       (try clear BK567)
       (try clear HB)
       generalize (((((((w16.setCell ⟨gb567, 0, none⟩ (.int .i64 ((rd_T29 l0_6 x12_1).f0))).setCell ⟨gb567, 1, none⟩ (.int .i64 ((rd_T29 l0_6 x12_1).f1))).setCell ⟨gb567, 2, none⟩ (.int .i64 ((rd_T29 l0_6 x12_1).f2))).setCell ⟨gb567, 3, none⟩ (.int .i64 ((rd_T29 l0_6 x12_1).f3))).setCell ⟨gb567, 4, none⟩ (.string ((rd_T29 l0_6 x12_1).f4))).setCell ⟨gb567, 5, none⟩ (.int .i64 ((rd_T29 l0_6 x12_1).f5))).setCell ⟨gb567, 6, none⟩ (.int .i64 ((rd_T29 l0_6 x12_1).f6))) = w21 at n0_ n1_ n2_ n3_ n4_ n5_ ⊢
       have HO_566006 := n0_
       have BK563 := n1_
       have BK564 := n2_
       have BK565 := n3_
       have BK567 := n4_
       have HB := n5_
       clear n0_ n1_ n2_ n3_ n4_ n5_
       have n0_ := Aside0.mk (Kd.R_drew HO_566006.out)
       have n1_ := Aside0.mk (blk_drew BK563.out)
       have n2_ := Aside0.mk (blk_drew BK564.out)
       have n3_ := Aside0.mk (blk_drew BK565.out)
       have n4_ := Aside0.mk (blk_drew BK567.out)
       have n5_ := Aside0.mk (below_drew1 HB.out)
       clear HO_566006
       clear BK563
       clear BK564
       clear BK565
       clear BK567
       clear HB
       have HO_566006 := n0_
       have BK563 := n1_
       have BK564 := n2_
       have BK565 := n3_
       have BK567 := n4_
       have HB := n5_
       clear n0_ n1_ n2_ n3_ n4_ n5_
       refine start_ (n := 8) (S := fun w' => w'.cell? ⟨gb565, 0, none⟩ = some (.int .i64 a0_0) ∧ w'.cell? ⟨gb565, 1, none⟩ = some (.int .i64 a0_1) ∧ w'.cell? ⟨gb565, 2, none⟩ = some (.int .i64 a0_2) ∧ w'.cell? ⟨gb565, 3, none⟩ = some (.int .i64 a0_3) ∧ w'.cell? ⟨gb565, 4, none⟩ = some (.int .i64 a0_4) ∧ w'.cell? ⟨gb565, 5, none⟩ = some (.int .i64 a0_5) ∧ w'.cell? ⟨gb565, 6, none⟩ = some (u566006) ∧ w'.cell? ⟨gb567, 0, none⟩ = some (.int .i64 ((rd_T29 l0_6 x12_1).f0)) ∧ w'.cell? ⟨gb567, 1, none⟩ = some (.int .i64 ((rd_T29 l0_6 x12_1).f1)) ∧ w'.cell? ⟨gb567, 2, none⟩ = some (.int .i64 ((rd_T29 l0_6 x12_1).f2)) ∧ w'.cell? ⟨gb567, 3, none⟩ = some (.int .i64 ((rd_T29 l0_6 x12_1).f3)) ∧ w'.cell? ⟨gb567, 4, none⟩ = some (.string ((rd_T29 l0_6 x12_1).f4)) ∧ w'.cell? ⟨gb567, 5, none⟩ = some (.int .i64 ((rd_T29 l0_6 x12_1).f5)) ∧ w'.cell? ⟨gb567, 6, none⟩ = some (.int .i64 ((rd_T29 l0_6 x12_1).f6))) (ds := [7]) #[false, false, false, false, false, false, false, false] (by kernel_rfl) rfl rfl ⟨(blk_cell BK565.out 0).trans rfl, (blk_cell BK565.out 1).trans rfl, (blk_cell BK565.out 2).trans rfl, (blk_cell BK565.out 3).trans rfl, (blk_cell BK565.out 4).trans rfl, (blk_cell BK565.out 5).trans rfl, (blk_cell BK565.out 6).trans rfl, (blk_cell BK567.out 0).trans rfl, (blk_cell BK567.out 1).trans rfl, (blk_cell BK567.out 2).trans rfl, (blk_cell BK567.out 3).trans rfl, (blk_cell BK567.out 4).trans rfl, (blk_cell BK567.out 5).trans rfl, (blk_cell BK567.out 6).trans rfl⟩ (fun hHeld => ?_); refine with_tabW barrowlaw24_plain.tab5 barrowlaw24_plain.bits5 (fun HT_ HW_ => ?_)
       generalize w21.drew = w22 at HO_566006 BK563 BK564 BK565 BK567 HB hHeld ⊢
       refine pure_ (i := 0) (N := some 16) (v := ?_) (a' := ?_) #[true, false, false, false, false, false, false, false] rfl rfl (any_of HT_.out (by kernel_rfl)) (fun _ _ _ h => h) (Or.inl ⟨by rfl, ?_⟩) ?_ ?_
       rotate_left
       ·intro w'
        go_simp
        with_reducible rfl
       rotate_left
       ·simp only [Act.put, List.setIfInBounds_toArray, List.set_cons_zero, List.set_cons_succ, i64_w, i32_w]
        rfl
       refine take_ (i := 1) (N := some 17) (v := ?_) (a' := ?_) #[true, true, false, false, false, false, false, false] rfl rfl (take_ofW HT_.out HW_.out (by kernel_rfl)) (fun _ _ _ h => h) (Or.inl ⟨by rfl, ?_⟩) hHeld ?_ ?_
       rotate_left
       ·rintro w' ⟨s0, s1, s2, s3, s4, s5, s6, s7, s8, s9, s10, s11, s12, s13⟩
        go_simp
        with_reducible rfl
       rotate_left
       ·simp only [Act.put, List.setIfInBounds_toArray, List.set_cons_zero, List.set_cons_succ, i64_w, i32_w]
        rfl
       refine take_ (i := 2) (N := some 18) (v := ?_) (a' := ?_) #[true, true, true, false, false, false, false, false] rfl rfl (take_ofW HT_.out HW_.out (by kernel_rfl)) (fun _ _ _ h => h) (Or.inl ⟨by rfl, ?_⟩) hHeld ?_ ?_
       rotate_left
       ·rintro w' ⟨s0, s1, s2, s3, s4, s5, s6, s7, s8, s9, s10, s11, s12, s13⟩
        go_simp
        with_reducible rfl
       rotate_left
       ·simp only [Act.put, List.setIfInBounds_toArray, List.set_cons_zero, List.set_cons_succ, i64_w, i32_w]
        rfl
       refine one_ (i := 3) (N := some 19) #[true, true, true, true, false, false, false, false] rfl rfl (one_of HT_.out (by kernel_rfl)) (by decide) (fun K hK => ?_)
       refine goes_ Tryd.func20 (by kernel_rfl) rfl #[.agg #[.int .i64 ((rd_T29 l0_6 x12_1).f0), .int .i64 ((rd_T29 l0_6 x12_1).f1), .int .i64 ((rd_T29 l0_6 x12_1).f2), .int .i64 ((rd_T29 l0_6 x12_1).f3), .string ((rd_T29 l0_6 x12_1).f4), .int .i64 ((rd_T29 l0_6 x12_1).f5), .int .i64 ((rd_T29 l0_6 x12_1).f6)]] (by rfl) rfl rfl (by (try simp only [List.map_toArray, List.map_cons, List.map_nil]); first | done | rfl | (simp only [List.length_drop, List.length_take]; rfl)) ?_
       with_reducible refine (script_Plain.calls ((rd_T29 l0_6 x12_1).f0) ((rd_T29 l0_6 x12_1).f1) ((rd_T29 l0_6 x12_1).f2) ((rd_T29 l0_6 x12_1).f3) ((rd_T29 l0_6 x12_1).f4) ((rd_T29 l0_6 x12_1).f5) ((rd_T29 l0_6 x12_1).f6) t568 t569 t570 t571 t572 t573 t574 _ A14.out).mono ?_
       rintro e w23 ⟨rfl, hb⟩
       refine ⟨_, rfl, ?_⟩
       have n0_ := Aside0.mk (Kd.R_below (by (with_reducible repeat (first | apply Kd.R_alloc | apply Kd.R_drewN | apply Kd.R_drew)); exact HO_566006.out) hb)
       have n1_ := Aside0.mk (blk_below (g := gb563) (o := .cells #[.int .i64 a0_0, .int .i64 a0_1, .int .i64 a0_2, .int .i64 a0_3, .int .i64 a0_4, .int .i64 a0_5, .slice (some ad566) l0_6.length c0_6] 26 (0, 0)) (by (with_reducible repeat (first | refine blk_drewN ?_ _ | refine blk_drew ?_ | refine blk_alloc ?_ _)); exact BK563.out) hb)
       have n2_ := Aside0.mk (blk_below (g := gb564) (o := .cells #[.int .i64 0, .int .i64 0, .int .i64 0, .int .i64 0, .int .i64 0, .int .i64 0, .slice none 0 0] 26 (0, 0)) (by (with_reducible repeat (first | refine blk_drewN ?_ _ | refine blk_drew ?_ | refine blk_alloc ?_ _)); exact BK564.out) hb)
       have n3_ := Aside0.mk (blk_below (g := gb565) (o := .cells #[.int .i64 a0_0, .int .i64 a0_1, .int .i64 a0_2, .int .i64 a0_3, .int .i64 a0_4, .int .i64 a0_5, u566006] 26 (0, 0)) (by (with_reducible repeat (first | refine blk_drewN ?_ _ | refine blk_drew ?_ | refine blk_alloc ?_ _)); exact BK565.out) hb)
       have n4_ := Aside0.mk (blk_below (g := gb567) (o := .cells #[.int .i64 ((rd_T29 l0_6 x12_1).f0), .int .i64 ((rd_T29 l0_6 x12_1).f1), .int .i64 ((rd_T29 l0_6 x12_1).f2), .int .i64 ((rd_T29 l0_6 x12_1).f3), .string ((rd_T29 l0_6 x12_1).f4), .int .i64 ((rd_T29 l0_6 x12_1).f5), .int .i64 ((rd_T29 l0_6 x12_1).f6)] 29 (0, 0)) (by (with_reducible repeat (first | refine blk_drewN ?_ _ | refine blk_drew ?_ | refine blk_alloc ?_ _)); exact BK567.out) hb)
       have n5_ := Aside0.mk (below_step (by repeat (first | (with_reducible first | exact HB.out | apply below_alloc | apply pw_below_drewN | apply below_drew1 | refine below_set ?_ GE563.out | refine below_set ?_ GE564.out | refine below_set ?_ GE565.out | refine below_set ?_ GE567.out) | exact HB.out)) hb)
       clear HO_566006
       clear BK563
       clear BK564
       clear BK565
       clear BK567
       clear HB
       have HO_566006 := n0_
       have BK563 := n1_
       have BK564 := n2_
       have BK565 := n3_
       have BK567 := n4_
       have HB := n5_
       clear n0_ n1_ n2_ n3_ n4_ n5_
       (try clear hb)
       (try clear hb2)
       (try clear hk)
       (try clear hi)
       refine hK.out _ _ ⟨(blk_cell BK565.out 0).trans rfl, (blk_cell BK565.out 1).trans rfl, (blk_cell BK565.out 2).trans rfl, (blk_cell BK565.out 3).trans rfl, (blk_cell BK565.out 4).trans rfl, (blk_cell BK565.out 5).trans rfl, (blk_cell BK565.out 6).trans rfl, (blk_cell BK567.out 0).trans rfl, (blk_cell BK567.out 1).trans rfl, (blk_cell BK567.out 2).trans rfl, (blk_cell BK567.out 3).trans rfl, (blk_cell BK567.out 4).trans rfl, (blk_cell BK567.out 5).trans rfl, (blk_cell BK567.out 6).trans rfl⟩ (fun hHeld => ?_)
       clear hK K
       refine norm_ (a' := ?_) ?_ ?_
       rotate_left
       ·show Act.put _ (some 19) _ = _
        simp only [Act.put, List.setIfInBounds_toArray, List.set_cons_zero, List.set_cons_succ, i64_w, i32_w]
        rfl
       refine one_ (i := 4) (N := some 20) #[true, true, true, true, true, false, false, false] rfl rfl (one_of HT_.out (by kernel_rfl)) (by decide) (fun K hK => ?_)
       refine value_ (w1 := ?_) (v := ?_) (by rfl) rfl ?_ ?_
       rotate_left 2
       ·go_simp
        constructor
        ·rfl
        ·rfl
       refine hK.out _ _ ⟨(blk_cell (blk_alloc BK565.out _) 0).trans rfl, (blk_cell (blk_alloc BK565.out _) 1).trans rfl, (blk_cell (blk_alloc BK565.out _) 2).trans rfl, (blk_cell (blk_alloc BK565.out _) 3).trans rfl, (blk_cell (blk_alloc BK565.out _) 4).trans rfl, (blk_cell (blk_alloc BK565.out _) 5).trans rfl, (blk_cell (blk_alloc BK565.out _) 6).trans rfl, (blk_cell (blk_alloc BK567.out _) 0).trans rfl, (blk_cell (blk_alloc BK567.out _) 1).trans rfl, (blk_cell (blk_alloc BK567.out _) 2).trans rfl, (blk_cell (blk_alloc BK567.out _) 3).trans rfl, (blk_cell (blk_alloc BK567.out _) 4).trans rfl, (blk_cell (blk_alloc BK567.out _) 5).trans rfl, (blk_cell (blk_alloc BK567.out _) 6).trans rfl⟩ (fun hHeld => ?_)
       clear hK K
       refine norm_ (a' := ?_) ?_ ?_
       rotate_left
       ·show Act.put _ (some 20) _ = _
        simp only [Act.put, List.setIfInBounds_toArray, List.set_cons_zero, List.set_cons_succ, i64_w, i32_w]
        rfl
       refine one_ (i := 5) (N := some 21) #[true, true, true, true, true, true, false, false] rfl rfl (one_of HT_.out (by kernel_rfl)) (by decide) (fun K hK => ?_)
       refine Kd.R_append_step k29 (w0 := w) w.heap.size (by rfl) (.tmp 17) (.tmp 20) 24 29 (.agg #[(.int .i64 0), (.int .i64 0), (.int .i64 0), (.int .i64 0), (.string ⟨#[]⟩), (.int .i64 0), (.int .i64 0)]) 64 rfl Tryd.underlying24 info29 rfl (by decide) (by omega) u566006 x566006_1 (⟨t568, t569, t570, t571, t572, t573, t574⟩ : S29) [.int .i64 t568, .int .i64 t569, .int .i64 t570, .int .i64 t571, .string t572, .int .i64 t573, .int .i64 t574] (fun k_ => k_ ≠ gb567) (fun _ => False) rfl rfl ?aP (fun _ hk => hk.elim) ?aF ?aO ?aB ?aS ?aL ?_
       (case aP => exact k29_mkM _ _ _ (⟨t568, t569, t570, t571, t572, t573, t574⟩ : S29))
       (case aB => exact (by repeat (first | (with_reducible first | exact HB.out | apply below_alloc | apply pw_below_drewN | apply below_drew1 | refine below_set ?_ GE563.out | refine below_set ?_ GE564.out | refine below_set ?_ GE565.out | refine below_set ?_ GE567.out) | exact HB.out)))
       (case aF => exact (fun k_ hk => Kd.freshB (g := gb567) (o := .cells #[.int .i64 ((rd_T29 l0_6 x12_1).f0), .int .i64 ((rd_T29 l0_6 x12_1).f1), .int .i64 ((rd_T29 l0_6 x12_1).f2), .int .i64 ((rd_T29 l0_6 x12_1).f3), .string ((rd_T29 l0_6 x12_1).f4), .int .i64 ((rd_T29 l0_6 x12_1).f5), .int .i64 ((rd_T29 l0_6 x12_1).f6)] 29 (0, 0)) (by (with_reducible repeat (first | refine blk_drewN ?_ _ | refine blk_drew ?_ | refine blk_alloc ?_ _)); exact BK567.out) k_ hk))
       (case aO => exact (by (with_reducible repeat (first | apply Kd.R_alloc | apply Kd.R_drewN | apply Kd.R_drew)); exact HO_566006.out))
       (case aS => exact (below_size (by repeat (first | (with_reducible first | exact HB.out | apply below_alloc | apply pw_below_drewN | apply below_drew1 | refine below_set ?_ GE563.out | refine below_set ?_ GE564.out | refine below_set ?_ GE565.out | refine below_set ?_ GE567.out) | exact HB.out))))
       (case aL => have := LMc15.out; omega)
       intro v576 w24 ho hb hg hat
       rw [← Ny575.out] at ho
       have n0_ := Aside0.mk (blk_grown (g := gb563) (o := .cells #[.int .i64 a0_0, .int .i64 a0_1, .int .i64 a0_2, .int .i64 a0_3, .int .i64 a0_4, .int .i64 a0_5, .slice (some ad566) l0_6.length c0_6] 26 (0, 0)) (by (with_reducible repeat (first | refine blk_drewN ?_ _ | refine blk_drew ?_ | refine blk_alloc ?_ _)); exact BK563.out) hg (Kd.R_ne HO_566006.out BK563.out (by decide)))
       have n1_ := Aside0.mk (blk_grown (g := gb564) (o := .cells #[.int .i64 0, .int .i64 0, .int .i64 0, .int .i64 0, .int .i64 0, .int .i64 0, .slice none 0 0] 26 (0, 0)) (by (with_reducible repeat (first | refine blk_drewN ?_ _ | refine blk_drew ?_ | refine blk_alloc ?_ _)); exact BK564.out) hg (Kd.R_ne HO_566006.out BK564.out (by decide)))
       have n2_ := Aside0.mk (blk_grown (g := gb565) (o := .cells #[.int .i64 a0_0, .int .i64 a0_1, .int .i64 a0_2, .int .i64 a0_3, .int .i64 a0_4, .int .i64 a0_5, u566006] 26 (0, 0)) (by (with_reducible repeat (first | refine blk_drewN ?_ _ | refine blk_drew ?_ | refine blk_alloc ?_ _)); exact BK565.out) hg (Kd.R_ne HO_566006.out BK565.out (by decide)))
       have n3_ := Aside0.mk (blk_grown (g := gb567) (o := .cells #[.int .i64 ((rd_T29 l0_6 x12_1).f0), .int .i64 ((rd_T29 l0_6 x12_1).f1), .int .i64 ((rd_T29 l0_6 x12_1).f2), .int .i64 ((rd_T29 l0_6 x12_1).f3), .string ((rd_T29 l0_6 x12_1).f4), .int .i64 ((rd_T29 l0_6 x12_1).f5), .int .i64 ((rd_T29 l0_6 x12_1).f6)] 29 (0, 0)) (by (with_reducible repeat (first | refine blk_drewN ?_ _ | refine blk_drew ?_ | refine blk_alloc ?_ _)); exact BK567.out) hg (Kd.R_away HO_566006.out (fun _ hk => hk)))
       have n4_ := Aside0.mk (hb)
       have n5_ := Aside0.mk (ho)
       clear BK563
       clear BK564
       clear BK565
       clear BK567
       clear HB
       clear HO_566006
       have BK563 := n0_
       have BK564 := n1_
       have BK565 := n2_
       have BK567 := n3_
       have HB := n4_
       have HO577 := n5_
       clear n0_ n1_ n2_ n3_ n4_ n5_
       clear ho hb hg hat
       obtain ⟨Ao25, co25, eo25⟩ := Kd.R_slice HO577.out
       (first | subst eo25 | (injection eo25 with f1_ f2_ f3_; have f4_ := f1_.symm; have f5_ := f3_.symm; clear f1_ f2_ f3_; subst f4_; subst f5_))
       refine hK.out _ _ ⟨(blk_cell BK565.out 0).trans rfl, (blk_cell BK565.out 1).trans rfl, (blk_cell BK565.out 2).trans rfl, (blk_cell BK565.out 3).trans rfl, (blk_cell BK565.out 4).trans rfl, (blk_cell BK565.out 5).trans rfl, (blk_cell BK565.out 6).trans rfl, (blk_cell BK567.out 0).trans rfl, (blk_cell BK567.out 1).trans rfl, (blk_cell BK567.out 2).trans rfl, (blk_cell BK567.out 3).trans rfl, (blk_cell BK567.out 4).trans rfl, (blk_cell BK567.out 5).trans rfl, (blk_cell BK567.out 6).trans rfl⟩ (fun hHeld => ?_)
       clear hK K
       refine norm_ (a' := ?_) ?_ ?_
       rotate_left
       ·show Act.put _ (some 21) _ = _
        simp only [Act.put, List.setIfInBounds_toArray, List.set_cons_zero, List.set_cons_succ, i64_w, i32_w]
        rfl
       refine pure_ (i := 6) (N := some 22) (v := ?_) (a' := ?_) #[true, true, true, true, true, true, true, false] rfl rfl (any_of HT_.out (by kernel_rfl)) (fun _ _ _ h => h) (Or.inl ⟨by rfl, ?_⟩) ?_ ?_
       rotate_left
       ·intro w'
        go_simp
        with_reducible rfl
       rotate_left
       ·simp only [Act.put, List.setIfInBounds_toArray, List.set_cons_zero, List.set_cons_succ, i64_w, i32_w]
        rfl
       refine last_ (i := 7) (N := none) #[true, true, true, true, true, true, true, true] rfl rfl (one_of HT_.out (by kernel_rfl)) (by decide) (fun K hK => ?_)
       have hs26 : w24.cell? ⟨gb565, 6, none⟩ = some (u566006) := (blk_cell BK565.out 6).trans rfl
       have hfs26 := blk_frozen BK565.out 6
       have hns26_0 := NB563_565.out
       have hns26_1 := NB564_565.out
       have hns26_3 := NB567_565.out
       have hms26_0 := NB565_563.out
       have hms26_1 := NB565_564.out
       have hms26_3 := NB565_567.out
       refine skip_ (w1 := ?_) (by rfl) rfl ?_ ?_
       rotate_left
       ·go_simp
        rfl
       refine hK.out _ _ ?_
       clear hK K
       refine done_ (done_of HT_.out (by kernel_rfl)) ?_
       try go_wp2
       go_roundg k1
       case measure => have := HK1.out; omega
       case rel => exact ⟨(wrap64 (x12_1 + 1)), (y575), (.slice Ao25 y575.length co25), (by first | rfl | (simp; done) | (simp [*]; done)), H', ⟨by have := HK1.out; omega⟩, ⟨by (with_reducible repeat (first | apply Kd.R_alloc | apply Kd.R_drewN | apply Kd.R_drew)); exact Kd.R_mono (Kd.R_far (p := ⟨gb565, 6, none⟩) (Kd.R_types HO577.out BK565.out (by decide)) (fun _ hk => hk.2) (.slice Ao25 y575.length co25)) (fun _ hk => trivial)⟩, ⟨by (with_reducible repeat (first | refine blk_drewN ?_ _ | refine blk_drew ?_ | refine blk_alloc ?_ _)); refine blk_far ?_ NB563_565.out _; (with_reducible repeat (first | refine blk_drewN ?_ _ | refine blk_drew ?_ | refine blk_alloc ?_ _)); exact BK563.out⟩, ⟨by (with_reducible repeat (first | refine blk_drewN ?_ _ | refine blk_drew ?_ | refine blk_alloc ?_ _)); refine blk_far ?_ NB564_565.out _; (with_reducible repeat (first | refine blk_drewN ?_ _ | refine blk_drew ?_ | refine blk_alloc ?_ _)); exact BK564.out⟩, ⟨by (with_reducible repeat (first | refine blk_drewN ?_ _ | refine blk_drew ?_ | refine blk_alloc ?_ _)); refine blk_put (cs := #[.int .i64 a0_0, .int .i64 a0_1, .int .i64 a0_2, .int .i64 a0_3, .int .i64 a0_4, .int .i64 a0_5, u566006]) ?_ 6 _ rfl; (with_reducible repeat (first | refine blk_drewN ?_ _ | refine blk_drew ?_ | refine blk_alloc ?_ _)); exact BK565.out⟩, ⟨by repeat (first | (with_reducible first | exact HB.out | apply below_alloc | apply pw_below_drewN | apply below_drew1 | refine below_set ?_ GE563.out | refine below_set ?_ GE564.out | refine below_set ?_ GE565.out | refine below_set ?_ GE567.out) | exact HB.out)⟩⟩
      ·rw [if_neg c15] at H
       exact absurd H (by simp)
     ·rw [if_neg c13] at H
      exact absurd H (by simp)
    ·rw [if_neg c12] at H
     exact absurd H (by simp)
   ·rw [if_neg c11] at H
    have c11b0 : decide (x12_1 < (l0_6.length : Int)) = false := decide_eq_false c11
    clear c11
    simp only [Option.some.injEq, Prod.mk.injEq] at H
    obtain ⟨rfl, rfl, rfl, rfl, rfl, rfl, rfl⟩ := H
    have hnb27 := NB565_563.out
    have hnc27 := NB563_565.out
    have hnb28 := NB565_564.out
    have hnc28 := NB564_565.out
    have hcz29_0 : wr.cell? ⟨gb565, 0, none⟩ = some (.int .i64 a0_0) := (blk_cell BK565.out 0).trans rfl
    have hcz29_1 : wr.cell? ⟨gb565, 1, none⟩ = some (.int .i64 a0_1) := (blk_cell BK565.out 1).trans rfl
    have hcz29_2 : wr.cell? ⟨gb565, 2, none⟩ = some (.int .i64 a0_2) := (blk_cell BK565.out 2).trans rfl
    have hcz29_3 : wr.cell? ⟨gb565, 3, none⟩ = some (.int .i64 a0_3) := (blk_cell BK565.out 3).trans rfl
    have hcz29_4 : wr.cell? ⟨gb565, 4, none⟩ = some (.int .i64 a0_4) := (blk_cell BK565.out 4).trans rfl
    have hcz29_5 : wr.cell? ⟨gb565, 5, none⟩ = some (.int .i64 a0_5) := (blk_cell BK565.out 5).trans rfl
    have hcz29_6 : wr.cell? ⟨gb565, 6, none⟩ = some (u566006) := (blk_cell BK565.out 6).trans rfl
    have hfz29_0 := blk_frozen BK565.out 0
    have hfz29_1 := blk_frozen BK565.out 1
    have hfz29_2 := blk_frozen BK565.out 2
    have hfz29_3 := blk_frozen BK565.out 3
    have hfz29_4 := blk_frozen BK565.out 4
    have hfz29_5 := blk_frozen BK565.out 5
    have hfz29_6 := blk_frozen BK565.out 6
    have hnb30 := NB564_563.out
    have hnc30 := NB563_564.out
    have hcz31_0 : wr.cell? ⟨gb564, 0, none⟩ = some (.int .i64 0) := (blk_cell BK564.out 0).trans rfl
    have hcz31_1 : wr.cell? ⟨gb564, 1, none⟩ = some (.int .i64 0) := (blk_cell BK564.out 1).trans rfl
    have hcz31_2 : wr.cell? ⟨gb564, 2, none⟩ = some (.int .i64 0) := (blk_cell BK564.out 2).trans rfl
    have hcz31_3 : wr.cell? ⟨gb564, 3, none⟩ = some (.int .i64 0) := (blk_cell BK564.out 3).trans rfl
    have hcz31_4 : wr.cell? ⟨gb564, 4, none⟩ = some (.int .i64 0) := (blk_cell BK564.out 4).trans rfl
    have hcz31_5 : wr.cell? ⟨gb564, 5, none⟩ = some (.int .i64 0) := (blk_cell BK564.out 5).trans rfl
    have hcz31_6 : wr.cell? ⟨gb564, 6, none⟩ = some (.slice none 0 0) := (blk_cell BK564.out 6).trans rfl
    have hfz31_0 := blk_frozen BK564.out 0
    have hfz31_1 := blk_frozen BK564.out 1
    have hfz31_2 := blk_frozen BK564.out 2
    have hfz31_3 := blk_frozen BK564.out 3
    have hfz31_4 := blk_frozen BK564.out 4
    have hfz31_5 := blk_frozen BK564.out 5
    have hfz31_6 := blk_frozen BK564.out 6
    obtain ⟨Ao32, co32, eo32⟩ := Kd.R_slice HO_566006.out
    subst eo32
    go_wp2
    refine bodyPost_ret (results_cell_row rfl _ _ gb564 26 #[.int .i64 a0_0, .int .i64 a0_1, .int .i64 a0_2, .int .i64 a0_3, .int .i64 a0_4, .int .i64 a0_5, .slice Ao32 x566006_1.length co32] (0, 0) _ rfl (by (with_reducible repeat (first | refine blk_drewN ?_ _ | refine blk_drew ?_ | refine blk_alloc ?_ _)); refine blk_put (cs := #[.int .i64 a0_0, .int .i64 a0_1, .int .i64 a0_2, .int .i64 a0_3, .int .i64 a0_4, .int .i64 a0_5, .slice none 0 0]) ?_ 6 _ rfl; (with_reducible repeat (first | refine blk_drewN ?_ _ | refine blk_drew ?_ | refine blk_alloc ?_ _)); refine blk_put (cs := #[.int .i64 a0_0, .int .i64 a0_1, .int .i64 a0_2, .int .i64 a0_3, .int .i64 a0_4, .int .i64 0, .slice none 0 0]) ?_ 5 _ rfl; (with_reducible repeat (first | refine blk_drewN ?_ _ | refine blk_drew ?_ | refine blk_alloc ?_ _)); refine blk_put (cs := #[.int .i64 a0_0, .int .i64 a0_1, .int .i64 a0_2, .int .i64 a0_3, .int .i64 0, .int .i64 0, .slice none 0 0]) ?_ 4 _ rfl; (with_reducible repeat (first | refine blk_drewN ?_ _ | refine blk_drew ?_ | refine blk_alloc ?_ _)); refine blk_put (cs := #[.int .i64 a0_0, .int .i64 a0_1, .int .i64 a0_2, .int .i64 0, .int .i64 0, .int .i64 0, .slice none 0 0]) ?_ 3 _ rfl; (with_reducible repeat (first | refine blk_drewN ?_ _ | refine blk_drew ?_ | refine blk_alloc ?_ _)); refine blk_put (cs := #[.int .i64 a0_0, .int .i64 a0_1, .int .i64 0, .int .i64 0, .int .i64 0, .int .i64 0, .slice none 0 0]) ?_ 2 _ rfl; (with_reducible repeat (first | refine blk_drewN ?_ _ | refine blk_drew ?_ | refine blk_alloc ?_ _)); refine blk_put (cs := #[.int .i64 a0_0, .int .i64 0, .int .i64 0, .int .i64 0, .int .i64 0, .int .i64 0, .slice none 0 0]) ?_ 1 _ rfl; (with_reducible repeat (first | refine blk_drewN ?_ _ | refine blk_drew ?_ | refine blk_alloc ?_ _)); refine blk_put (cs := #[.int .i64 0, .int .i64 0, .int .i64 0, .int .i64 0, .int .i64 0, .int .i64 0, .slice none 0 0]) ?_ 0 _ rfl; (with_reducible repeat (first | refine blk_drewN ?_ _ | refine blk_drew ?_ | refine blk_alloc ?_ _)); exact BK564.out) Tryd.underlying26 rfl (by kernel_rfl)) rfl ?_
    exact ⟨_, by first | rfl | (simp [errW_none, errW_some] <;> rfl) | (simp [*, errW_none, errW_some] <;> rfl), by (with_reducible repeat (first | apply Kd.R_alloc | apply Kd.R_drewN | apply Kd.R_drew)); exact Kd.R_mono (Kd.R_far (p := ⟨gb564, 6, none⟩) (Kd.R_far (p := ⟨gb564, 5, none⟩) (Kd.R_far (p := ⟨gb564, 4, none⟩) (Kd.R_far (p := ⟨gb564, 3, none⟩) (Kd.R_far (p := ⟨gb564, 2, none⟩) (Kd.R_far (p := ⟨gb564, 1, none⟩) (Kd.R_far (p := ⟨gb564, 0, none⟩) (Kd.R_types HO_566006.out BK564.out (by decide)) (fun _ hk => hk.2) (.int .i64 a0_0)) (fun _ hk => hk.2) (.int .i64 a0_1)) (fun _ hk => hk.2) (.int .i64 a0_2)) (fun _ hk => hk.2) (.int .i64 a0_3)) (fun _ hk => hk.2) (.int .i64 a0_4)) (fun _ hk => hk.2) (.int .i64 a0_5)) (fun _ hk => hk.2) (.slice Ao32 x566006_1.length co32)) (fun _ hk => trivial), by repeat (first | (with_reducible first | exact HB.out | apply below_alloc | apply pw_below_drewN | apply below_drew1 | refine below_set ?_ GE563.out | refine below_set ?_ GE564.out | refine below_set ?_ GE565.out) | exact HB.out)⟩
end Go.Proofs.YtlmdhpfggobogaaDoor.G
