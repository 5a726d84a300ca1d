import Derived.Test.YtlmdhpfggobogaaDoorQSk10
import Derived.Test.YtlmdhpfggobogaaDoorQSk12
import Derived.Test.YtlmdhpfggobogaaDoorQSk9
import Derived.Lib.OthersKept
namespace Go.Proofs.YtlmdhpfggobogaaDoor.G
open Go.RowKit Go.Proofs.YtlmdhpfggobogaaDoorW.PrintWords Go.Proofs.YtlmdhpfggobogaaDoorW.PrintLast Go.Proofs.YtlmdhpfggobogaaDoorW.PrintMore
set_option linter.unusedVariables false
def script_PrintOp.f (a0 a1 a2 a3 : Int) (a4 : ByteArray) (a5 a6 : Int) : Option ByteArray := if okO a0 a1 a2 a3 a4 a5 a6 then some (strOfNums (lineI a0 a1 a2 a3 a4 a5 a6)) else none
theorem st74 {ops : Array Oper} {rest : List Oper} {o : Oper} {a : Act} {Q : Exit → Act → World → Prop} {w : World} {O C : Array Value} {x y : Operand} (hgd : o.guard = none)
  (ho : o.op = .store 74 x y) (hd : o.dst = none) (hx : a.eval x = .pointer (some ⟨w.heap.size, 0, none⟩)) (hy : a.eval y = .agg C)
  (hO : O.size = 2) (hC : C.size = 2) (h1 : C.all (·.oneCell') = true) (h : wpList Tryd.prog ops Q rest a (w.alloc (.cells C 74))) :
  wpList Tryd.prog ops Q (o :: rest) a (w.alloc (.cells O 74)) :=
 wpList_store_rowTo hgd 74 x y ho hd w.heap.size C hx hy 74 O (heap_alloc_last w _) (by rw [hC]; kernel_rfl) (by omega) h1
  (by rw [show (w.alloc (.cells O 74)).setRow w.heap.size C = w.alloc (.cells C 74) from World.setRow_alloc_new w O C 74]; exact h)
theorem bytes_app (a b : ByteArray) : bytesOf (a ++ b) = bytesOf a ++ bytesOf b := by
  unfold bytesOf
  rw [ByteArray.data_append, Array.toList_append, List.map_append]
theorem line_pre {a0 a1 a2 a3 : Int} {a4 : ByteArray} {a5 a6 : Int} (ho : okO a0 a1 a2 a3 a4 a5 a6) {W0 F0 : ByteArray} (hs : shp a0 = (W0, F0)) (n : Nat) :
    (bytesOf W0 ++ ((bytesOf F0).take n).flatMap (pieceI a0 a1 a2 a3 a4 a5 a6)).length ≤ 20000008 := by
  have key : ∀ l : List Int, (l.flatMap (pieceI a0 a1 a2 a3 a4 a5 a6)).length ≤ 5000000 * l.length := by
    intro l
    induction l with
    | nil => simp
    | cons c t ih => rw [List.flatMap_cons, List.length_append, List.length_cons]; have := piece_len ho c; omega
  obtain ⟨_, _, _, h4, h5⟩ := shapes a0
  rw [hs] at h4 h5
  have := key ((bytesOf F0).take n)
  have h6 : ((bytesOf F0).take n).length ≤ 4 := by rw [List.length_take, bytesOf_length]; have : F0.size ≤ 4 := h5; omega
  have h7 : W0.size ≤ 8 := h4
  rw [List.length_append, bytesOf_length]
  omega
set_option maxHeartbeats 4000000 in
set_option maxRecDepth 100000 in
theorem script_PrintOp.calls (a0 a1 a2 a3 : Int) (a4 : ByteArray) (a5 a6 : Int) (r : ByteArray) (w : World) (hTab : Aside0 (Tab w)) (h : script_PrintOp.f a0 a1 a2 a3 a4 a5 a6 = some r) :
    Calls Tryd.prog 19 #[.agg #[.int .i64 a0, .int .i64 a1, .int .i64 a2, .int .i64 a3, .string a4, .int .i64 a5, .int .i64 a6]] w fun e w' => e = .returned (.string r) ∧ Below w.heap.size w w' := by
  unfold script_PrintOp.f at h
  by_cases hok : okO a0 a1 a2 a3 a4 a5 a6
  case neg => rw [if_neg hok] at h; cases h
  rw [if_pos hok] at h
  have HR := Aside0.mk (Option.some.inj h)
  have HK := Aside0.mk hok
  clear h hok
  have HS := Aside0.mk (shp_eq a0)
  obtain ⟨_, _, hl0, hw0, hf0⟩ := shapes a0
  have HL := Aside0.mk hl0
  have HWs := Aside0.mk hw0
  have HFs := Aside0.mk hf0
  clear hl0 hw0 hf0
  obtain ⟨W0, hW0⟩ : ∃ W0, (shp a0).1 = W0 := ⟨_, rfl⟩
  obtain ⟨F0, hF0⟩ : ∃ F0, (shp a0).2 = F0 := ⟨_, rfl⟩
  have hWF : shp a0 = (W0, F0) := by rw [← hW0, ← hF0]
  rw [hWF] at HS HL HWs HFs
  have HWF := Aside0.mk hWF
  clear hWF hW0 hF0
  obtain ⟨cs, hcs⟩ : ∃ cs : Array Value, cs = #[.int .i64 a0, .int .i64 a1, .int .i64 a2, .int .i64 a3, .string a4, .int .i64 a5, .int .i64 a6] := ⟨_, rfl⟩
  have S1 : True := trivial
  go_enter Tryd.func19, Tryd.ntmps19
  go_wp2_with (first | (clear S1; (with_reducible refine gate_dst (N := 1) rfl ?_); refine box_event ?hg (N := 1) ?hd (cs := #[.int .i64 a0, .int .i64 a1, .int .i64 a2, .int .i64 a3, .string a4, .int .i64 a5, .int .i64 a6]) (t := 29) ?hr ?_; (case hd => rfl); (case hg => rfl); (case hr => first | (go_simp; done) | (go_simp; rfl)); intro gb hgb w1 hbox hb1; have n0 := Aside0.mk hbox; have n1 := Aside0.mk hb1; have n2 := Aside0.mk hgb; have c0 : w1.cell? ⟨gb, 0, none⟩ = some (.int .i64 a0) := (by rw [Lib.cell_of_heap hbox]; rfl); clear hbox hb1 hgb) | (go_at_call 41; refine (script_shapeOf.calls a0 W0 F0 _ HS.out).mono ?_; rintro e w2 ⟨rfl, hb2⟩; have n3 := Aside0.mk hb2; clear hb2) | (refine st74 rfl rfl rfl rfl rfl rfl rfl rfl ?_) | go_in)
  obtain ⟨K, hK⟩ : ∃ K, K = w2.heap.size + 1 := ⟨_, rfl⟩
  have HKs := Aside0.mk hK
  clear hK
  go_loopw [4] (fun v4 wr => ∃ (pos : Nat) (L : ByteArray), v4 = .string L ∧ Aside0 (pos ≤ F0.size) ∧ Aside0 (bytesOf L = bytesOf W0 ++ ((bytesOf F0).take pos).flatMap (pieceI a0 a1 a2 a3 a4 a5 a6)) ∧ Aside0 (wr.heap[K]? = some (.stringIter F0 pos)) ∧ Aside0 (wr.heap[gb]? = some (.cells #[.int .i64 a0, .int .i64 a1, .int .i64 a2, .int .i64 a3, .string a4, .int .i64 a5, .int .i64 a6] 29 (0, 0))) ∧ Aside0 (Below w.heap.size w wr)) (fun _ wr => F0.size - wr.iterPos K)
  case atStart =>
    refine ⟨0, W0, rfl, ⟨Nat.zero_le _⟩, ⟨by simp⟩, ⟨?_⟩, ⟨?_⟩, ⟨?_⟩⟩
    · have := World.iter_heap (w2.alloc (.cells #[.string W0, .string F0] 74)) F0 0
      rw [HKs.out]
      simpa using this
    · exact blk_alloc (blk_alloc (blk_below n0.out n3.out) _) _
    · exact below_alloc (below_alloc (below_step n1.out n3.out) _) _
  case round =>
    obtain ⟨pos, L, rfl, HP, HB, HI, HX, HW⟩ := hrel
    by_cases hp : pos < F0.size
    · have hmem : bt F0 pos ∈ bytesOf F0 := by
        rw [bt_getD, Int.toNat_natCast, List.getD_eq_getElem?_getD, List.getElem?_eq_getElem (by rw [bytesOf_length]; exact hp)]; exact List.getElem_mem _
      have hlet := HL.out _ hmem
      have hbt : ((F0[pos]'hp).toNat : Int) = bt F0 pos := by unfold bt; rw [dif_pos (by simpa using hp)]; rfl
      have hasc : (F0[pos]'hp).toNat < 128 := by omega
      have hnx : ∀ ty, (Instr.next (.pointer (some ⟨K, 0, none⟩)) true ty).run Tryd.prog wr = _ := fun ty => Lib.run_next_ascii_at wr K F0 pos ty HI.out hp hasc
      rw [hbt] at hnx
      have hpc : (bytesOf F0).take (pos + 1) = (bytesOf F0).take pos ++ [bt F0 pos] := by
        rw [List.take_succ_eq_append_getElem (by rw [bytesOf_length]; exact hp), bt_getD, Int.toNat_natCast, List.getD_eq_getElem?_getD, List.getElem?_eq_getElem (by rw [bytesOf_length]; exact hp)]; rfl
      have HI2 := Aside0.mk (Lib.iterAt_heap wr K F0 pos (pos + 1) HI.out)
      have hgk : gb ≠ K := by intro e; have h1 := HX.out; rw [e, HI.out] at h1; cases h1
      have HX2 := Aside0.mk ((Lib.iterAt_other wr K gb F0 (pos + 1) hgk).trans HX.out)
      have HW2 := Aside0.mk (Lib.below_iterAt HW.out (k := K) (by rw [HKs.out]; have := (below_step n1.out n3.out).size; omega) F0 (pos + 1))
      obtain ⟨W2, hW2⟩ : ∃ W, wr.iterAt K F0 (pos + 1) = W := ⟨_, rfl⟩
      rw [hW2] at hnx HI2 HX2 HW2
      have hm2 : F0.size - W2.iterPos K < F0.size - wr.iterPos K := by simp only [World.iterPos, HI2.out, HI.out]; omega
      have HM2 := Aside0.mk hm2
      have hpl := line_pre HK.out HWF.out (pos + 1)
      have HPC := Aside0.mk hpc
      have HHP := Aside0.mk hp
      clear hW2 hm2 hbt hasc hgk hmem hp hpc
      obtain ⟨c, hc⟩ : ∃ c, bt F0 pos = c := ⟨_, rfl⟩
      rw [hc] at hnx HPC hlet
      clear hc
      rw [HKs.out] at hnx
      have hLs : L.size ≤ 20000008 := by
        have h1 := HB.out
        have h2 := line_pre HK.out HWF.out pos
        rw [← h1, bytesOf_length] at h2; exact h2
      by_cases h115 : c = 115
      · subst h115
        have c4 : W2.cell? ⟨gb, 4, none⟩ = some (.string a4) := by rw [Lib.cell_of_heap HX2.out]; rfl
        obtain ⟨k, hk⟩ := (skuWord_ev a4 HK.out.2.2.2.2.1).rounds
        have hks : (skuB a4).size ≤ 4194306 := by
          rw [← bytesOf_length, skuB_bytes]; have h1 := skuI_len (bytesOf a4); rw [bytesOf_length] at h1; have := HK.out.2.2.2.2.1; omega
        have A1 := Aside0.mk hk
        clear hk
        obtain ⟨U, hU⟩ : ∃ U, skuB a4 = U := ⟨_, rfl⟩
        have HU := Aside0.mk hU
        rw [hU] at A1 hks
        clear hU
        go_wp2_with (first | (go_at_call 42; refine (script_skuWord.calls k a4 U _ A1.out).mono ?_; rintro e w3 ⟨rfl, hb3⟩; have n5 := Aside0.mk hb3; clear hb3) | go_in)
        go_roundw
        case rel =>
          refine ⟨pos + 1, L ++ ((⟨#[32]⟩ : ByteArray) ++ U), rfl, ⟨HHP.out⟩, ⟨?_⟩, ⟨blk_below HI2.out n5.out⟩, ⟨blk_below HX2.out n5.out⟩, ⟨below_step HW2.out n5.out⟩⟩
          rw [bytes_app, bytes_app, HB.out, HPC.out, List.flatMap_append, ← HU.out, skuB_bytes]
          simp [pieceI]
          rfl
        case measure =>
          have h1 := HM2.out
          simp only [World.iterPos, HI2.out] at h1
          simp only [World.iterPos, blk_below HI2.out n5.out]
          exact h1
      · have cf : W2.cell? ⟨gb, fldOff c, none⟩ = some (.int .i64 (fldV a0 a1 a2 a3 a5 a6 c)) := by
          rw [Lib.cell_of_heap HX2.out]
          rcases hlet with rfl | rfl | rfl | rfl | rfl | rfl | rfl <;> first | exact absurd rfl h115 | rfl
        have hcc : c = 114 ∨ c = 99 ∨ c = 116 ∨ c = 113 ∨ c = 110 ∨ c = 107 := by omega
        have HCC := Aside0.mk hcc
        have hcb : (c == 115) = false := beq_eq_false_iff_ne.mpr h115
        have H115 := Aside0.mk h115
        clear hcc hlet h115
        have hin := fldV_in HK.out c
        obtain ⟨V, hV⟩ : ∃ V, fldV a0 a1 a2 a3 a5 a6 c = V := ⟨_, rfl⟩
        have HV := Aside0.mk hV
        rw [hV] at cf hin
        clear hV
        have hfv : strconv_Itoa.f V = some (itoaB V) := by unfold strconv_Itoa.f; rw [if_pos ⟨hin.1, hin.2⟩]; rfl
        have hks : (itoaB V).size ≤ 20 := by rw [← bytesOf_length, itoa_bytes]; exact numI_len V hin
        have A1 := Aside0.mk hfv
        clear hfv hin
        obtain ⟨U, hU⟩ : ∃ U, itoaB V = U := ⟨_, rfl⟩
        have HU := Aside0.mk hU
        rw [hU] at A1 hks
        clear hU
        go_wp2_with (first | (go_at_call 43; refine (script_field.calls gb c _ HCC.out).mono ?_; rintro e w3 ⟨rfl, rfl⟩) | (go_at_call 31; refine (strconv_Itoa.calls V U _ (tab_keep hTab HW2.out) A1.out).mono ?_; rintro e w3 ⟨rfl, hb3⟩; have n5 := Aside0.mk hb3; clear hb3) | go_in)
        go_roundw
        case rel =>
          refine ⟨pos + 1, L ++ ((⟨#[32]⟩ : ByteArray) ++ U), rfl, ⟨HHP.out⟩, ⟨?_⟩, ⟨blk_below HI2.out n5.out⟩, ⟨blk_below HX2.out n5.out⟩, ⟨below_step HW2.out n5.out⟩⟩
          rw [bytes_app, bytes_app, HB.out, HPC.out, List.flatMap_append, ← HU.out, itoa_bytes, ← HV.out]
          simp [pieceI, H115.out]
          rfl
        case measure =>
          have h1 := HM2.out
          simp only [World.iterPos, HI2.out] at h1
          simp only [World.iterPos, blk_below HI2.out n5.out]
          exact h1
    · have hnx : ∀ ty, (Instr.next (.pointer (some ⟨K, 0, none⟩)) true ty).run Tryd.prog wr = _ := fun ty => Lib.run_next_end_at wr K F0 pos ty HI.out hp
      have hb := HB.out
      rw [List.take_of_length_le (by rw [bytesOf_length]; omega)] at hb
      have HBB := Aside0.mk hb
      clear hb hp
      rw [HKs.out] at hnx
      go_wp2
      go_ret
      refine ⟨?_, HW.out⟩
      have e := HR.out
      unfold lineI at e
      rw [HWF.out] at e
      rw [← e, ← HBB.out, str_bytesOf]
      rfl
end Go.Proofs.YtlmdhpfggobogaaDoor.G
