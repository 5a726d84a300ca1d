import Derived.Test.YtlmdcpooogaolaaDoorQTh7
import Derived.Test.YtlmdcpooogaolaaDoorQTh0
import Derived.Test.YtlmdcpooogaolaaDoorQTh3
import Derived.RangeFuncNested
import Derived.RangeFuncBound
import Derived.RangeFuncCalls
import Derived.RangeFuncLeaves
import Derived.Shelf.Abstract
import Derived.Shelf.RegionOpen
import Derived.WalkKit
import Derived.OwnWalkIn
import Derived.TacticsInMore
import Derived.LoopNIn
import Derived.LoopIn
/- strings.SplitSeq at the comma: the pieces of the text come one by one. The closure keeps what is left of the text in a cell of its own. -/
namespace Go.Proofs.YtlmdcpooogaolaaDoor.G
open Go.RowKit Go.Shelf Go.Proofs.YtlmdcpooogaolaaDoor.Rg
attribute [local go_sem] Oper.semAt_some

def comma (s : ByteArray) : Int := Lib.indexByte s.data.toList 44
def spl : Nat → ByteArray → List ByteArray
 | 0, s => [s]
 | k + 1, s => if comma s < 0 then [s] else s.extract 0 (comma s).toNat :: spl k (s.extract ((comma s).toNat + 1) s.size)
def split (s : ByteArray) : List ByteArray := spl (s.size + 1) s
/-- The three blocks of the closure lie as they lay. -/
def Kp3 (c : Nat) (W W' : World) : Prop := ∀ k, c ≤ k → k ≤ c + 2 → W'.heap[k]? = W.heap[k]?
theorem Kp3.t {c : Nat} {A B C : World} (h : Kp3 c A B) (k : Kp3 c B C) : Kp3 c A C := fun j h1 h2 => (k j h1 h2).trans (h j h1 h2)
def leftAt (c : Nat) (W : World) : Nat := match W.cell? ⟨c, 0, none⟩ with | some (.string s) => s.size | _ => 0
theorem leftAt_eq {c : Nat} {W : World} {s : ByteArray} (h : Boxed W c 9 (.string s)) : leftAt c W = s.size := by
  unfold leftAt; rw [h.cell]
theorem comma_cases (s : ByteArray) : Lib.indexByte s.data.toList 44 = -1 ∨ ∃ i : Nat, Lib.indexByte s.data.toList 44 = i ∧ i < s.size := by
  have hge := Lib.indexByte_ge s.data.toList 44
  by_cases h : Lib.indexByte s.data.toList 44 = -1
  · exact Or.inl h
  · refine Or.inr ⟨(Lib.indexByte s.data.toList 44).toNat, by omega, ?_⟩
    have h2 := (Lib.indexByte_some (o := (Lib.indexByte s.data.toList 44).toNat) (l := s.data.toList) (c := 44) (by omega)).1
    have h3 := (List.getElem?_eq_some_iff.1 h2).1
    rw [Lib.size_eq]; exact h3
theorem spl_hit (k : Nat) (s : ByteArray) (i : Nat) (h : Lib.indexByte s.data.toList 44 = i) : spl (k + 1) s = s.extract 0 i :: spl k (s.extract (i + 1) s.size) := by
  have e : comma s = i := h
  show (if comma s < 0 then [s] else s.extract 0 (comma s).toNat :: spl k (s.extract ((comma s).toNat + 1) s.size)) = _
  rw [e, if_neg (by omega), Int.toNat_natCast]
theorem spl_miss (k : Nat) (s : ByteArray) (h : Lib.indexByte s.data.toList 44 = -1) : spl k s = [s] := by
  have e : comma s = -1 := h
  cases k with
  | zero => rfl
  | succ k => unfold spl; rw [e, if_pos (by omega)]

set_option maxRecDepth 100000 in
set_option maxHeartbeats 2000000 in
theorem split1_in (n : Nat) (hn : 1 ≤ n) (l c : Nat) (s0 : ByteArray) (hs0 : s0.size < 4294967281) (J Jx : List ByteArray → World → Prop) (hJc : AbidesC c J)
    (hY : ∀ pre x W, J pre W → pre ++ [x] <+: split s0 → YieldAt Fence.wide (n - 1) Tryd.prog l #[.string x] W fun e W' =>
      (e = .returned (.bool true) ∧ J (pre ++ [x]) W' ∧ Kp3 c W W') ∨ (e = .returned (.bool false) ∧ Jx (pre ++ [x]) W'))
    (W : World) (hs : Boxed W c 9 (.string s0)) (hsep : Boxed W (c + 1) 9 (.string ⟨#[44]⟩)) (hsv : Boxed W (c + 2) 3 (.int .i64 0)) (h0 : J [] W) :
    CallsIn Fence.wide n Tryd.prog 34 #[.func (.yield l) #[] #[], .pointer (some ⟨c + 1, 0, none⟩), .pointer (some ⟨c, 0, none⟩), .pointer (some ⟨c + 2, 0, none⟩)] W fun e W' => (∃ v, e = .returned v) ∧
      ((∃ ys, ys = split s0 ∧ J ys W') ∨ (∃ pre, pre <+: split s0 ∧ Jx pre W')) := by
  refine callsIn_of_wp Tryd.func34 rfl trivial ?_ rfl
  simp only [Tryd.ntmps34, List.size_toArray, List.length_cons, List.length_nil, Nat.reduceAdd, Nat.reduceSub, Array.replicate_succ, Array.replicate_zero, List.push_toArray, List.append_toArray, List.nil_append, List.cons_append]
  have hcs := hs.cell; have hcp := hsep.cell; have hcv := hsv.cell
  gi_wp2
  gi_loopw [] (fun wr => ∃ (pre : List ByteArray) (k : Nat) (s : ByteArray), Boxed wr c 9 (.string s) ∧ Boxed wr (c + 1) 9 (.string ⟨#[44]⟩) ∧ Boxed wr (c + 2) 3 (.int .i64 0) ∧ split s0 = pre ++ spl k s ∧ s.size < k ∧ s.size ≤ s0.size ∧ J pre wr)
    (fun wr => leftAt c wr)
  case atStart => exact ⟨[], s0.size + 1, s0, hs, hsep, hsv, rfl, Nat.lt_succ_self _, Nat.le_refl _, h0⟩
  case round =>
    obtain ⟨pre, k, s, bs, bp, bv, hfull, hk, hle, hJ⟩ := hrel
    have hcs := bs.cell; have hcp := bp.cell; have hcv := bv.cell
    rcases comma_cases s with hix | ⟨i, hix, hi⟩
    · obtain ⟨fn, tmps, assign, body, hy, hR⟩ := hY pre s wr hJ (by rw [hfull, spl_miss k s hix]; exact List.prefix_refl _)
      gi_wp2_with (refine ⟨trivial, ?_⟩; gi_at_call 36; refine (callsIn_wide.2 (Tryd.strings_Index_one _ 44 _)).mono ?_; rintro e w' ⟨rfl, rfl⟩; rw [hix])
      refine hR.mono ?_
      rintro e W3 (⟨rfl, hJ3, hk3⟩ | ⟨rfl, hJx3⟩)
      · gi_wp2
        go_end0
        exact ⟨⟨_, rfl⟩, .inl ⟨_, by rw [hfull, spl_miss k s hix], hJ3⟩⟩
      · gi_wp2
        go_end0
        exact ⟨⟨_, rfl⟩, .inr ⟨_, by rw [hfull, spl_miss k s hix]; exact List.prefix_refl _, hJx3⟩⟩
    · have c1 : (0 : Int) ≤ (i : Int) := by omega
      have c2 : (i : Int) ≤ (s.size : Int) := by omega
      have c3 : (0 : Int) ≤ (i : Int) + 1 := by omega
      have c4 : (i : Int) + 1 ≤ (s.size : Int) := by omega
      have w1 : wrap64 (i : Int) = i := by unfold wrap64; omega
      have w2 : wrap64 ((i : Int) + 1) = i + 1 := by unfold wrap64; omega
      have w3 : ((i : Int) + 1).toNat = i + 1 := by omega
      obtain ⟨k, rfl⟩ : ∃ m, k = m + 1 := ⟨k - 1, by omega⟩
      rw [spl_hit k s i hix] at hfull
      obtain ⟨fn, tmps, assign, body, hy, hR⟩ := hY pre (s.extract 0 i) wr hJ ⟨spl k (s.extract (i + 1) s.size), by rw [hfull]; simp⟩
      gi_wp2_with (refine ⟨trivial, ?_⟩; gi_at_call 36; refine (callsIn_wide.2 (Tryd.strings_Index_one _ 44 _)).mono ?_; rintro e w' ⟨rfl, rfl⟩; rw [hix])
      refine hR.mono ?_
      rintro e W3 (⟨rfl, hJ3, hk3⟩ | ⟨rfl, hJx3⟩)
      · have bs3 : Boxed W3 c 9 (.string s) := (hk3 c (Nat.le_refl _) (by omega)).trans bs
        have bp3 : Boxed W3 (c + 1) 9 (.string ⟨#[44]⟩) := (hk3 (c + 1) (by omega) (by omega)).trans bp
        have bv3 : Boxed W3 (c + 2) 3 (.int .i64 0) := (hk3 (c + 2) (by omega) (by omega)).trans bv
        have hcs3 := bs3.cell; have hcp3 := bp3.cell; have hcv3 := bv3.cell; have hfs3 := bs3.frozen
        gi_wp2
        go_roundw
        case rel => exact ⟨pre ++ [s.extract 0 i], k, _, bs3.set _, bp3.other (by omega) _, bv3.other (by omega) _, by rw [hfull]; simp, by simp; omega, by simp; omega, hJc.1 _ _ _ hJ3⟩
        case measure => rw [leftAt_eq (bs3.set _), leftAt_eq bs]; simp; omega
      · gi_wp2
        refine bodyPost_ret (results_none rfl _ _ _) rfl ?_
        exact ⟨⟨_, rfl⟩, .inr ⟨pre ++ [s.extract 0 i], ⟨spl k (s.extract (i + 1) s.size), by rw [hfull]; simp⟩, hJx3⟩⟩
theorem split_in (n : Nat) (hn : 1 ≤ n) (c : Nat) (s0 : ByteArray) (hs0 : s0.size < 4294967281) (w : World) (hw : c + 3 ≤ w.heap.size)
    (hs : Boxed w c 9 (.string s0)) (hsep : Boxed w (c + 1) 9 (.string ⟨#[44]⟩)) (hsv : Boxed w (c + 2) 3 (.int .i64 0)) :
    SeqStopsC Fence.wide n Tryd.prog 34 #[.pointer (some ⟨c + 1, 0, none⟩), .pointer (some ⟨c, 0, none⟩), .pointer (some ⟨c + 2, 0, none⟩)] (fun x : ByteArray => #[Value.string x]) c (Kp3 c) (fun ys => ys = split s0) (fun pre => pre <+: split s0) w :=
  fun l J Jx W hW hJ _ hY h0 => split1_in n hn l c s0 hs0 J Jx hJ hY W ((hW.block c (by omega)).trans hs) ((hW.block (c + 1) (by omega)).trans hsep) ((hW.block (c + 2) (by omega)).trans hsv) h0
set_option maxHeartbeats 1000000 in
theorem splitSeq0_in (n : Nat) (s p : ByteArray) (w : World) : CallsIn Fence.wide n Tryd.prog 22 #[.string s, .string p, .int .i64 0] w fun e w' =>
    e = .returned (.func (.func 34) #[] #[.pointer (some ⟨w.heap.size + 1, 0, none⟩), .pointer (some ⟨w.heap.size, 0, none⟩), .pointer (some ⟨w.heap.size + 2, 0, none⟩)]) ∧ w' = ((w.alloc (.cells #[.string s] 9)).alloc (.cells #[.string p] 9)).alloc (.cells #[.int .i64 0] 3) := by
  refine callsIn_of_wp Tryd.func22 rfl trivial ?_ rfl
  simp only [Tryd.ntmps22, List.size_toArray, List.length_cons, List.length_nil, Nat.reduceAdd, Nat.reduceSub, Array.replicate_succ, Array.replicate_zero, List.push_toArray, List.append_toArray, List.nil_append, List.cons_append]
  gi_wp2
  go_ret
  exact ⟨rfl, rfl⟩
set_option maxHeartbeats 1000000 in
theorem splitSeq_in (n : Nat) (hn : 1 ≤ n) (s p : ByteArray) (w : World) : CallsIn Fence.wide n Tryd.prog 13 #[.string s, .string p] w fun e w' =>
    e = .returned (.func (.func 34) #[] #[.pointer (some ⟨w.heap.size + 1, 0, none⟩), .pointer (some ⟨w.heap.size, 0, none⟩), .pointer (some ⟨w.heap.size + 2, 0, none⟩)]) ∧ w' = ((w.alloc (.cells #[.string s] 9)).alloc (.cells #[.string p] 9)).alloc (.cells #[.int .i64 0] 3) := by
  refine callsIn_of_wp Tryd.func13 rfl trivial ?_ rfl
  simp only [Tryd.ntmps13, List.size_toArray, List.length_cons, List.length_nil, Nat.reduceAdd, Nat.reduceSub, Array.replicate_succ, Array.replicate_zero, List.push_toArray, List.append_toArray, List.nil_append, List.cons_append]
  gi_wp2_with (refine ⟨trivial, ?_⟩; gi_at_call 22; refine (splitSeq0_in (n - 1) _ _ _).mono ?_; rintro e w' ⟨rfl, rfl⟩)
  go_ret
  exact ⟨rfl, rfl⟩
end Go.Proofs.YtlmdcpooogaolaaDoor.G
