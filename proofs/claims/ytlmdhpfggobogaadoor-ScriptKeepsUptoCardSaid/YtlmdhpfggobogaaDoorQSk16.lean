import Derived.Test.YtlmdhpfggobogaaDoorQSk14
import Derived.Test.YtlmdhpfggobogaaDoorQSk11
import Derived.Test.YtlmdhpfggobogaaDoorQSk7
namespace Go.Proofs.YtlmdhpfggobogaaDoor.G
open Go.RowKit Go.Proofs.YtlmdhpfggobogaaDoorW.PrintWords Go.Proofs.YtlmdhpfggobogaaDoorW.PrintLast Go.Proofs.YtlmdhpfggobogaaDoorW.PrintMore
set_option linter.unusedVariables false
def okS (o : S29) : Prop := okO o.f0 o.f1 o.f2 o.f3 o.f4 o.f5 o.f6
instance (o : S29) : Decidable (okS o) := inferInstanceAs (Decidable (okO _ _ _ _ _ _ _))
def opI (o : S29) : List Int := lineI o.f0 o.f1 o.f2 o.f3 o.f4 o.f5 o.f6 ++ [10]
def storeI : List Int := [115, 116, 111, 114, 101]
def headNums (a0 a1 a2 a3 a4 a5 : Int) : List Int := [a0, a1, a2, a3, a4, a5]
def numsI (l : List Int) : List Int := l.flatMap fun n => 32 :: numI n
def printI (a0 a1 a2 a3 a4 a5 : Int) (l : List S29) : List Int := storeI ++ numsI (headNums a0 a1 a2 a3 a4 a5) ++ [10] ++ l.flatMap opI
def okP (a0 a1 a2 a3 a4 a5 : Int) (l : List S29) : Prop := (∀ n ∈ headNums a0 a1 a2 a3 a4 a5, inI n) ∧ l.length ≤ 1048576 ∧ ∀ o ∈ l, okS o
instance (a0 a1 a2 a3 a4 a5 : Int) (l : List S29) : Decidable (okP a0 a1 a2 a3 a4 a5 l) := inferInstanceAs (Decidable (_ ∧ _))
def script_Print.f (a0 a1 a2 a3 a4 a5 : Int) (l : List S29) : Option ByteArray := if okP a0 a1 a2 a3 a4 a5 l then some (strOfNums (printI a0 a1 a2 a3 a4 a5 l)) else none
theorem builder_below {T e : TypeId} {B b : Nat} {bs : List Value} {w w' : World} (h : Lib.IsBuilderF T e B b bs w) (hb : Below w.heap.size w w') : Lib.IsBuilderF T e B b bs w' := by
  have key : ∀ p, Lib.BuilderAtF T e B b p bs w → Lib.BuilderAtF T e B b p bs w' := by
    intro p ⟨hB, v, hk, hown, hne⟩
    refine ⟨hB, v, blk_below hk hb, hown.kept (row := none) ⟨hb.os, hb.tape, hb.output, hb.size, fun k hk _ => hb.block k hk⟩ ?_, hne⟩
    cases v.ownBlock with
    | none => exact .inl rfl
    | some k => exact .inr (by simp)
  exact h.elim (fun x => .inl (key _ x)) (fun x => .inr (key _ x))
theorem builder_new {B b : Nat} {w : World} (hB : B ≤ b) (hk : w.heap[b]? = some (.cells #[.pointer none, .slice none 0 0] 53 (0, 0))) : Lib.IsBuilderF 53 5 B b [] w :=
  .inl ⟨hB, .slice none 0 0, hk, World.ownsRowF_of (World.ownsRow_nil _ _ _ _), by simp [Value.ownBlock]⟩
theorem builder_not61 {B b : Nat} {bs : List Value} {w : World} {cs : Array Value} (h : Lib.IsBuilderF 53 5 B b bs w) (hk : w.heap[b]? = some (.cells cs 61 (0, 0))) : False := by
  rcases h with ⟨_, v, hb, _⟩ | ⟨_, v, hb, _⟩ <;> (rw [hk] at hb; cases hb)
def toN : Value → Nat
  | .int _ n => n.toNat
  | _ => 0
theorem wrap_succ (i : Nat) (h : i < 4611686018427387904) : wrap64 ((i : Int) + 1) = ((i + 1 : Nat) : Int) := by unfold wrap64; omega
theorem head_cell (hd i : Nat) (h : i < 6) : (headRow hd)[i]? = some (.pointer (some ⟨hd, i, none⟩)) := by
  rcases i with _ | _ | _ | _ | _ | _ | i <;> first | rfl | omega
theorem num_cell (a0 a1 a2 a3 a4 a5 : Int) (i : Nat) (h : i < 6) : ∃ V, (#[.int .i64 a0, .int .i64 a1, .int .i64 a2, .int .i64 a3, .int .i64 a4, .int .i64 a5] : Array Value)[i]? = some (.int .i64 V) ∧ V ∈ headNums a0 a1 a2 a3 a4 a5 ∧ (headNums a0 a1 a2 a3 a4 a5).take (i + 1) = (headNums a0 a1 a2 a3 a4 a5).take i ++ [V] := by
  rcases i with _ | _ | _ | _ | _ | _ | i <;> first | exact ⟨_, rfl, by simp [headNums], rfl⟩ | omega
theorem nums_len (l : List Int) (h : ∀ n ∈ l, inI n) : (numsI l).length ≤ 21 * l.length := by
  induction l with
  | nil => simp [numsI]
  | cons n t ih =>
    have h1 := numI_len n (h n (by simp))
    have h2 := ih (fun m hm => h m (by simp [hm]))
    simp only [numsI, List.flatMap_cons, List.length_append, List.length_cons] at h2 ⊢
    omega
theorem head_len {a0 a1 a2 a3 a4 a5 : Int} {l : List S29} (h : okP a0 a1 a2 a3 a4 a5 l) (i : Nat) : (storeI ++ numsI ((headNums a0 a1 a2 a3 a4 a5).take i)).length ≤ 200 := by
  have h1 := nums_len ((headNums a0 a1 a2 a3 a4 a5).take i) (fun n hn => h.1 n (List.mem_of_mem_take hn))
  have h2 : ((headNums a0 a1 a2 a3 a4 a5).take i).length ≤ 6 := by rw [List.length_take]; exact Nat.min_le_right _ _
  rw [List.length_append]
  have : storeI.length = 5 := rfl
  omega
theorem ops_len (l : List S29) (h : ∀ o ∈ l, okS o) : (l.flatMap opI).length ≤ 20000009 * l.length := by
  induction l with
  | nil => simp
  | cons o t ih =>
    have h1 : (opI o).length ≤ 20000009 := by unfold opI; rw [List.length_append]; have := line_len (h o (by simp)); simp; omega
    have h2 := ih (fun m hm => h m (by simp [hm]))
    rw [List.flatMap_cons, List.length_append, List.length_cons]
    omega
theorem rd29_at (l : List S29) (j : Nat) (h : j < l.length) : rd_T29 l (j : Int) = l[j] := by
  unfold rd_T29
  rw [Int.toNat_natCast, List.getD_eq_getElem?_getD, List.getElem?_eq_getElem h]; rfl
def frontI (a0 a1 a2 a3 a4 a5 : Int) : List Int := storeI ++ numsI (headNums a0 a1 a2 a3 a4 a5) ++ [10]
theorem front_len {a0 a1 a2 a3 a4 a5 : Int} {l : List S29} (h : okP a0 a1 a2 a3 a4 a5 l) (j : Nat) : (frontI a0 a1 a2 a3 a4 a5 ++ (l.take j).flatMap opI).length ≤ 21000000000000 := by
  have h1 := head_len h 6
  have h2 := ops_len (l.take j) (fun o ho => h.2.2 o (List.mem_of_mem_take ho))
  have h3 : (l.take j).length ≤ l.length := by rw [List.length_take]; exact Nat.min_le_right _ _
  have h4 := h.2.1
  have h5 : (headNums a0 a1 a2 a3 a4 a5).take 6 = headNums a0 a1 a2 a3 a4 a5 := rfl
  rw [h5] at h1
  unfold frontI
  rw [List.length_append, List.length_append, List.length_singleton]
  omega
theorem strCells_app (a b : ByteArray) : Lib.strCells a ++ Lib.strCells b = Lib.strCells (a ++ b) := by
  unfold Lib.strCells
  rw [ByteArray.data_append, Array.toList_append, List.map_append]
theorem st23 {ops : Array Oper} {rest : List Oper} {o : Oper} {a : Act} {Q : Exit → Act → World → Prop} {w : World} {O C : Array Value} {x y : Operand} (hgd : o.guard = none)
  (ho : o.op = .store 23 x y) (hd : o.dst = none) (hx : a.eval x = .pointer (some ⟨w.heap.size, 0, none⟩)) (hy : a.eval y = .agg C)
  (hO : O.size = 6) (hC : C.size = 6) (h1 : C.all (·.oneCell') = true) (h : wpList Tryd.prog ops Q rest a (w.alloc (.cells C 23))) :
  wpList Tryd.prog ops Q (o :: rest) a (w.alloc (.cells O 23)) :=
 wpList_store_rowTo hgd 23 x y ho hd w.heap.size C hx hy 23 O (heap_alloc_last w _) (by rw [hC]; kernel_rfl) (by omega) h1
  (by rw [show (w.alloc (.cells O 23)).setRow w.heap.size C = w.alloc (.cells C 23) from World.setRow_alloc_new w O C 23]; exact h)
theorem st29 {ops : Array Oper} {rest : List Oper} {o : Oper} {a : Act} {Q : Exit → Act → World → Prop} {w : World} {O C : Array Value} {x y : Operand} (hgd : o.guard = none)
  (ho : o.op = .store 29 x y) (hd : o.dst = none) (hx : a.eval x = .pointer (some ⟨w.heap.size, 0, none⟩)) (hy : a.eval y = .agg C)
  (hO : O.size = 7) (hC : C.size = 7) (h1 : C.all (·.oneCell') = true) (h : wpList Tryd.prog ops Q rest a (w.alloc (.cells C 29))) :
  wpList Tryd.prog ops Q (o :: rest) a (w.alloc (.cells O 29)) :=
 wpList_store_rowTo hgd 29 x y ho hd w.heap.size C hx hy 29 O (heap_alloc_last w _) (by rw [hC]; kernel_rfl) (by omega) h1
  (by rw [show (w.alloc (.cells O 29)).setRow w.heap.size C = w.alloc (.cells C 29) from World.setRow_alloc_new w O C 29]; exact h)
set_option maxHeartbeats 4000000 in
set_option maxRecDepth 100000 in
theorem script_Print.calls (a0_0 a0_1 a0_2 a0_3 a0_4 a0_5 : Int) (A0_6 : Option Addr) (c0_6 : Nat) (l0_6 : List S29) (r : ByteArray) (w : World) (hTab : Aside0 (Tab w)) (hr0_6 : Kd.C k29 w A0_6 l0_6.length l0_6) (hc0_6 : l0_6.length ≤ c0_6)
    (h : script_Print.f a0_0 a0_1 a0_2 a0_3 a0_4 a0_5 l0_6 = some r) :
    Calls Tryd.prog 14 #[.agg #[.int .i64 a0_0, .int .i64 a0_1, .int .i64 a0_2, .int .i64 a0_3, .int .i64 a0_4, .int .i64 a0_5, .slice A0_6 l0_6.length c0_6]] w fun e w' => e = .returned (.string r) ∧ Below w.heap.size w w' := by
  unfold script_Print.f at h
  by_cases hok : okP a0_0 a0_1 a0_2 a0_3 a0_4 a0_5 l0_6
  case neg => rw [if_neg hok] at h; cases h
  rw [if_pos hok] at h
  have HR := Aside0.mk (Option.some.inj h)
  have HK := Aside0.mk hok
  have HOps := Aside0.mk hr0_6
  have hlen : (l0_6.length : Int) ≤ 1048576 := by have := hok.2.1; omega
  clear h hok hr0_6
  have S1 : True := trivial
  have S2 : True := trivial
  go_enter Tryd.func14, Tryd.ntmps14
  go_wp2_with (first | (clear S1; (with_reducible refine gate_dst (N := 1) rfl ?_); refine box_event ?hg (N := 1) ?hd (cs := #[.int .i64 a0_0, .int .i64 a0_1, .int .i64 a0_2, .int .i64 a0_3, .int .i64 a0_4, .int .i64 a0_5, .slice A0_6 l0_6.length c0_6]) (t := 26) ?hr ?_; (case hd => rfl); (case hg => rfl); (case hr => first | (go_simp; done) | (go_simp; rfl)); intro gx hgx w1 hbox hb1; have n0 := Aside0.mk hbox; have n1 := Aside0.mk hb1; clear hbox hb1 hgx) | (clear S2; (with_reducible refine gate_dst (N := 3) rfl ?_); refine box_event ?hg (N := 3) ?hd (cs := #[.pointer none, .slice none 0 0]) (t := 53) ?hr ?_; (case hd => rfl); (case hg => rfl); (case hr => first | (go_simp; done) | (go_simp; rfl)); intro gb hgb w2 hbox hb2; have n2 := Aside0.mk hbox; have n3 := Aside0.mk hb2; have n4 := Aside0.mk (blk_below n0.out hb2); have n5 := Aside0.mk (below_step n1.out hb2); have n6 := Aside0.mk (show w.heap.size ≤ gb by rw [hgb]; exact n1.out.size); have n61 := Aside0.mk (show gx < gb by rw [hgb]; exact blk_lt n0.out); have c0 : w2.cell? ⟨gx, 0, none⟩ = some (.int .i64 a0_0) := (by rw [Lib.cell_of_heap n4.out]; rfl); have c1 : w2.cell? ⟨gx, 1, none⟩ = some (.int .i64 a0_1) := (by rw [Lib.cell_of_heap n4.out]; rfl); have c2 : w2.cell? ⟨gx, 2, none⟩ = some (.int .i64 a0_2) := (by rw [Lib.cell_of_heap n4.out]; rfl); have c3 : w2.cell? ⟨gx, 3, none⟩ = some (.int .i64 a0_3) := (by rw [Lib.cell_of_heap n4.out]; rfl); have c4 : w2.cell? ⟨gx, 4, none⟩ = some (.int .i64 a0_4) := (by rw [Lib.cell_of_heap n4.out]; rfl); have c5 : w2.cell? ⟨gx, 5, none⟩ = some (.int .i64 a0_5) := (by rw [Lib.cell_of_heap n4.out]; rfl); clear hbox hb2 hgb) | (refine st23 rfl rfl rfl rfl rfl rfl rfl rfl ?_; clear c0 c1 c2 c3 c4 c5) | (go_at_call 29; refine (writeString w.heap.size gb [] ⟨#[115, 116, 111, 114, 101]⟩ _ (builder_new n6.out (blk_alloc n2.out _)) (by decide) (below_alloc n5.out _).size).mono ?_; rintro e w3 ⟨rfl, h3, hb3, hk3⟩; have n7 := Aside0.mk h3; have n8 := Aside0.mk ((below_alloc n5.out _).trans hb3); have n9 := Aside0.mk (hk3 _ _ (blk_new w2 _) (by intro e; have := Option.some.inj e; have := blk_lt n2.out; omega) (by intro c fz e; cases e)); have n10 := Aside0.mk (hk3 _ _ (blk_alloc n4.out _) (by intro e; have := Option.some.inj e; have := n61.out; omega) (by intro c fz e; cases e)); clear h3 hb3 hk3) | (go_at_call 30; refine (script_heads.calls w2.heap.size _).mono ?_; rintro e w4 ⟨g, rfl, hg1, hg2, hb4⟩; have n11 := Aside0.mk (builder_below n7.out hb4); have n12 := Aside0.mk (below_step n8.out hb4); have n13 := Aside0.mk (blk_below n9.out hb4); have n14 := Aside0.mk (blk_below n10.out hb4); have n15 := Aside0.mk hg2; have n16 := Aside0.mk (show gb ≠ g by have := blk_lt n2.out; have := n8.out.size; have h1 := n7.out; intro e; have h2 := hg2; rw [← e] at h2; exact builder_not61 n11.out h2); clear hg1 hg2 hb4) | go_in)
  obtain ⟨hd, hhd⟩ : ∃ hd, w2.heap.size = hd := ⟨_, rfl⟩
  have n17 := Aside0.mk (show gb ≠ w2.heap.size by have := blk_lt n2.out; omega)
  have n18 := Aside0.mk (show gb ≠ gx by have := n61.out; omega)
  rw [hhd] at n13 n15 n17
  rw [hhd]
  clear hhd n0 n1 n2 n3 n4 n5 n61 n7 n8 n9 n10
  go_loopw [14] (fun v14 wr => ∃ (i : Nat) (S : ByteArray), v14 = .int .i64 i ∧ i ≤ 6 ∧ Aside0 (bytesOf S = storeI ++ numsI ((headNums a0_0 a0_1 a0_2 a0_3 a0_4 a0_5).take i)) ∧ Aside0 (Lib.IsBuilderF 53 5 w.heap.size gb (Lib.strCells S) wr) ∧ Aside0 (Below w.heap.size w wr) ∧ Aside0 (wr.heap[hd]? = some (.cells #[.int .i64 a0_0, .int .i64 a0_1, .int .i64 a0_2, .int .i64 a0_3, .int .i64 a0_4, .int .i64 a0_5] 23 (0, 0))) ∧ Aside0 (wr.heap[g]? = some (.cells (headRow hd) 61 (0, 0))) ∧ Aside0 (wr.heap[gx]? = some (.cells #[.int .i64 a0_0, .int .i64 a0_1, .int .i64 a0_2, .int .i64 a0_3, .int .i64 a0_4, .int .i64 a0_5, .slice A0_6 l0_6.length c0_6] 26 (0, 0)))) (fun v14 _ => 6 - toN v14)
  case atStart => exact ⟨0, ⟨#[115, 116, 111, 114, 101]⟩, rfl, by omega, ⟨rfl⟩, n11, n12, n13, n15, n14⟩
  case round =>
    obtain ⟨i, S, rfl, hi, RS, RB, RW, RH, RG, RX⟩ := hrel
    clear n11 n12 n13 n14 n15
    have hSl : S.size ≤ 200 := by
      have h1 := RS.out
      have h2 := head_len HK.out i
      rw [← h1, bytesOf_length] at h2; exact h2
    by_cases h6 : i < 6
    · have g1 : wr.cell? ⟨g, i, none⟩ = some (.pointer (some ⟨hd, i, none⟩)) := by rw [Lib.cell_of_heap RG.out]; exact head_cell hd i h6
      obtain ⟨V, hV1, hV2, hV3⟩ := num_cell a0_0 a0_1 a0_2 a0_3 a0_4 a0_5 i h6
      have g2 : wr.cell? ⟨hd, i, none⟩ = some (.int .i64 V) := by rw [Lib.cell_of_heap RH.out]; exact hV1
      have hin := HK.out.1 V hV2
      have hfv : strconv_Itoa.f V = some (itoaB V) := by unfold strconv_Itoa.f; rw [if_pos ⟨hin.1, hin.2⟩]; rfl
      have hks : (itoaB V).size ≤ 20 := by rw [← bytesOf_length, itoa_bytes]; exact numI_len V hin
      have A1 := Aside0.mk hfv
      have A2 := Aside0.mk hV3
      clear hfv hin hV1 hV2 hV3
      obtain ⟨U, hU⟩ : ∃ U, itoaB V = U := ⟨_, rfl⟩
      have HU := Aside0.mk hU
      rw [hU] at A1 hks
      clear hU
      have hw := wrap_succ i (by omega)
      go_wp2_with (first | (go_at_call 31; refine (strconv_Itoa.calls V U _ (tab_keep hTab RW.out) A1.out).mono ?_; rintro e w5 ⟨rfl, hb5⟩; have n5 := Aside0.mk hb5; clear hb5) | (go_at_call 29; refine (writeString w.heap.size gb (Lib.strCells S) ((⟨#[32]⟩ : ByteArray) ++ U) _ (builder_below RB.out n5.out) (by rw [Lib.strCells_length, ByteArray.size_append]; show S.size + (1 + U.size) ≤ _; omega) (below_step RW.out n5.out).size).mono ?_; rintro e w6 ⟨rfl, h6, hb6, hk6⟩; have m7 := Aside0.mk h6; have m8 := Aside0.mk ((below_step RW.out n5.out).trans hb6); have m9 := Aside0.mk (hk6 _ _ (blk_below RH.out n5.out) (by intro e; exact n17.out (Option.some.inj e).symm) (by intro c fz e; cases e)); have m10 := Aside0.mk (hk6 _ _ (blk_below RG.out n5.out) (by intro e; exact n16.out (Option.some.inj e).symm) (by intro c fz e; cases e)); have m11 := Aside0.mk (hk6 _ _ (blk_below RX.out n5.out) (by intro e; exact n18.out (Option.some.inj e).symm) (by intro c fz e; cases e)); clear h6 hb6 hk6) | go_in)
      go_roundw
      case rel =>
        refine ⟨i + 1, S ++ ((⟨#[32]⟩ : ByteArray) ++ U), rfl, by omega, ⟨?_⟩, ⟨?_⟩, m8, m9, m10, m11⟩
        · rw [bytes_app, bytes_app, RS.out, A2.out, ← HU.out, itoa_bytes]
          simp [numsI]
          rfl
        · rw [← strCells_app]; exact m7.out
      case measure => simp only [toN]; omega
    · obtain rfl : i = 6 := by omega
      have hfin : bytesOf S = storeI ++ numsI (headNums a0_0 a0_1 a0_2 a0_3 a0_4 a0_5) := RS.out
      have HFin := Aside0.mk hfin
      clear hfin
      go_wp2_with (first | (go_at_call 29; refine (writeString w.heap.size gb (Lib.strCells S) ⟨#[10]⟩ _ RB.out (by rw [Lib.strCells_length]; show S.size + 1 ≤ _; omega) RW.out.size).mono ?_; rintro e w6 ⟨rfl, h6, hb6, hk6⟩; have m7 := Aside0.mk h6; have m8 := Aside0.mk (RW.out.trans hb6); have m11 := Aside0.mk (hk6 _ _ RX.out (by intro e; exact n18.out (Option.some.inj e).symm) (by intro c fz e; cases e)); have c6 : w6.cell? ⟨gx, 6, none⟩ = some (.slice A0_6 l0_6.length c0_6) := (by rw [Lib.cell_of_heap m11.out]; rfl); clear h6 hb6 hk6) | go_in)
      have HF2 := Aside0.mk (show bytesOf (S ++ (⟨#[10]⟩ : ByteArray)) = frontI a0_0 a0_1 a0_2 a0_3 a0_4 a0_5 ++ (l0_6.take 0).flatMap opI by rw [bytes_app, HFin.out, List.take_zero, List.flatMap_nil, List.append_nil]; rfl)
      have HBd := Aside0.mk (show Lib.IsBuilderF 53 5 w.heap.size gb (Lib.strCells (S ++ (⟨#[10]⟩ : ByteArray))) w6 by rw [← strCells_app]; exact m7.out)
      clear RS RB RW RH RG RX m7 m11 c6 HFin
      go_loopw [29] (fun v29 wl => ∃ (j : Nat) (S2 : ByteArray), v29 = .int .i64 j ∧ j ≤ l0_6.length ∧ Aside0 (bytesOf S2 = frontI a0_0 a0_1 a0_2 a0_3 a0_4 a0_5 ++ (l0_6.take j).flatMap opI) ∧ Aside0 (Lib.IsBuilderF 53 5 w.heap.size gb (Lib.strCells S2) wl) ∧ Aside0 (Below w.heap.size w wl)) (fun v29 _ => l0_6.length - toN v29)
      case atStart => exact ⟨0, _, rfl, Nat.zero_le _, HF2, HBd, m8⟩
      case round =>
        obtain ⟨j, S2, rfl, hj, RS, RB, RW⟩ := hrel
        have hSl : S2.size ≤ 21000000000000 := by
          have h1 := RS.out
          have h2 := front_len HK.out j
          rw [← h1, bytesOf_length] at h2; exact h2
        clear HF2 HBd m8
        by_cases h6 : j < l0_6.length
        · have hC := Kd.C_below HOps.out RW.out
          obtain ⟨ad, e, hx0, hx1, hx2, hx3, hx4, hx5, hx6⟩ := at_T29 hC (j : Int) (by omega) (by omega)
          subst e
          simp only [Int.toNat_natCast] at hx0 hx1 hx2 hx3 hx4 hx5 hx6
          obtain ⟨o, ho⟩ : ∃ o, rd_T29 l0_6 (j : Int) = o := ⟨_, rfl⟩
          have hoj : l0_6[j] = o := by rw [← rd29_at l0_6 j h6]; exact ho
          rw [ho] at hx0 hx1 hx2 hx3 hx4 hx5 hx6
          have hok : okS o := HK.out.2.2 o (by rw [← hoj]; exact List.getElem_mem _)
          have htk : (l0_6.take (j + 1)).flatMap opI = (l0_6.take j).flatMap opI ++ opI o := by
            rw [List.take_succ_eq_append_getElem h6, List.flatMap_append, hoj]; simp
          have hfv : script_PrintOp.f o.f0 o.f1 o.f2 o.f3 o.f4 o.f5 o.f6 = some (strOfNums (lineI o.f0 o.f1 o.f2 o.f3 o.f4 o.f5 o.f6)) := if_pos hok
          obtain ⟨U, hU⟩ : ∃ U, strOfNums (lineI o.f0 o.f1 o.f2 o.f3 o.f4 o.f5 o.f6) = U := ⟨_, rfl⟩
          have hUb : bytesOf U = lineI o.f0 o.f1 o.f2 o.f3 o.f4 o.f5 o.f6 := by rw [← hU]; exact bytesOf_str _ (line_range _ _ _ _ _ _ _)
          have hks : U.size ≤ 20000008 := by rw [← bytesOf_length, hUb]; exact line_len hok
          rw [hU] at hfv
          have A1 := Aside0.mk hfv
          have A2 := Aside0.mk htk
          have A3 := Aside0.mk hUb
          clear hfv htk hUb hU hok hoj ho hC
          have hw := wrap_succ j (by omega)
          go_wp2_with (first | (refine st29 rfl rfl rfl rfl rfl rfl rfl rfl ?_) | (go_at_call 19; refine (script_PrintOp.calls _ _ _ _ _ _ _ U _ (tab_keep hTab (below_alloc RW.out _)) A1.out).mono ?_; rintro e w7 ⟨rfl, hb7⟩; have n5 := Aside0.mk (below_step (below_alloc RW.out _) hb7); have n6 := Aside0.mk (builder_below (RB.out.alloc _) hb7); clear hb7) | (go_at_call 29; refine (writeString w.heap.size gb (Lib.strCells S2) (U ++ (⟨#[10]⟩ : ByteArray)) _ n6.out (by rw [Lib.strCells_length, ByteArray.size_append]; show S2.size + (U.size + 1) ≤ _; omega) n5.out.size).mono ?_; rintro e w8 ⟨rfl, h8, hb8, hk8⟩; have m7 := Aside0.mk h8; have m8 := Aside0.mk (n5.out.trans hb8); clear h8 hb8 hk8) | go_in)
          go_roundw
          case rel =>
            refine ⟨j + 1, S2 ++ (U ++ (⟨#[10]⟩ : ByteArray)), rfl, by omega, ⟨?_⟩, ⟨?_⟩, m8⟩
            · rw [bytes_app, bytes_app, RS.out, A2.out, A3.out, List.append_assoc]
              rfl
            · rw [← strCells_app]; exact m7.out
          case measure => simp only [toN]; omega
        · obtain rfl : j = l0_6.length := by omega
          have hS := RS.out
          rw [List.take_length] at hS
          have HS2 := Aside0.mk hS
          clear hS
          go_wp2_with (first | (go_at_call 32; refine (Tryd.Builder_String_any_k w.heap.size gb S2.data.toList _ RB.out RW.out.size).mono ?_; rintro e w7 ⟨rfl, _, hb7, _⟩; have m8 := Aside0.mk (RW.out.trans hb7); clear hb7) | go_in)
          go_ret
          refine ⟨?_, m8.out⟩
          have e : S2 = r := by rw [← HR.out, ← str_bytesOf S2, HS2.out]; rfl
          rw [← e]
          rfl
end Go.Proofs.YtlmdhpfggobogaaDoor.G
