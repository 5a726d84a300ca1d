/- goods.Sort once more: its answer is a row of its own, the capacity cut; and what rises strictly. -/
import Derived.Test.YthkpmldjbogngaaDoorSSs
namespace Go.Proofs.YthkpmldjbogngaaDoor.S
open Go.RowKit Go.Proofs.YthkpmldjbogngaaDoor.Ord Go.Proofs.YthkpmldjbogngaaDoorW.PrintWords Go.Proofs.YthkpmldjbogngaaDoorW.PrintLast Go.Proofs.YthkpmldjbogngaaDoorW.PrintMore
open Go.Sort Go.Lib
theorem sort_own (A0 : Option Addr) (c0 : Nat) (l0 : List ByteArray) (r : List ByteArray) (w : World) (hr0 : Kd.C Kd.string w A0 l0.length l0) (_hc0 : l0.length ≤ c0) (h : goods_Sort.f l0 = some r) :
    Calls Tryd.prog 4 #[.slice A0 l0.length c0] w fun e w' => ∃ (A : Option Addr) (C : Nat), e = .returned (.slice A r.length r.length) ∧ r.length ≤ C ∧ w'.ownsRow w.heap.size 9 1 (.slice A r.length C) r.length (r.map Value.string) ∧ Below w.heap.size w w' := by
  unfold goods_Sort.f at h
  by_cases hh : okB l0 ∧ l0.length ≤ 8796093022208
  · rw [dif_pos hh] at h
    injection h with h
    obtain ⟨hok, hl⟩ := hh
    have HR := Aside0.mk hr0
    have HL := Aside0.mk hl
    have HK := Aside0.mk hok
    have HE : Aside0 (compactB (sortL l0 hok) = r) := ⟨h⟩
    clear hr0 hl h
    go_enter Tryd.func4, Tryd.ntmps4
    go_wp2_with (first
      | (go_at_call 9; (with_reducible refine (clone_calls A0 c0 l0 _ ?s1 HL.out).mono ?_); (case s1 => repeat (first | exact HR.out | (with_reducible refine Kd.C_alloc ?_ _) | (with_reducible refine Kd.C_drewN ?_ _) | (with_reducible refine Kd.C_drew ?_)));
         rintro e w1 ⟨v, rfl, hown, hb⟩; have HO1 : Aside0 (w1.ownsRow w.heap.size 9 1 v l0.length (l0.map Value.string)) := ⟨hown⟩; have HB1 : Aside0 (Below w.heap.size w w1) := ⟨⟨hb.os, hb.tape, hb.output, hb.size, hb.block⟩⟩; clear hown hb)
      | (go_at_call 10; (with_reducible refine (sort_calls w.heap.size v l0 _ ?s2 ?s3 HK.out HL.out).mono ?_); (case s2 => exact HB1.out.size); (case s3 => exact HO1.out);
         rintro e w2 ⟨rfl, hown, hb⟩; have HO2 : Aside0 (w2.ownsRow w.heap.size 9 1 v l0.length ((sortL l0 hok).map Value.string)) := ⟨hown⟩; have HB2 : Aside0 (Below w.heap.size w w2) := ⟨⟨hb.os.trans HB1.out.os, hb.tape.trans HB1.out.tape, hb.output.trans HB1.out.output, Nat.le_trans HB1.out.size hb.size, fun k hk => (hb.block k hk).trans (HB1.out.block k hk)⟩⟩; clear hown hb)
      | (go_at_call 12; (with_reducible refine (compact_calls w.heap.size v (sortL l0 hok) _ ?s4 ?s5 ?s6).mono ?_); (case s4 => exact HB2.out.size); (case s5 => rw [sortL_length]; exact HO2.out); (case s6 => rw [sortL_length]; exact HL.out);
         rintro e w3 ⟨A3, c3, rfl, hc3, hown, hb⟩; have HO3 : Aside0 (w3.ownsRow w.heap.size 9 1 (.slice A3 (compactB (sortL l0 hok)).length c3) (compactB (sortL l0 hok)).length ((compactB (sortL l0 hok)).map Value.string)) := ⟨hown⟩; have HC3 := Aside0.mk hc3; have HB3 : Aside0 (Below w.heap.size w w3) := ⟨⟨hb.os.trans HB2.out.os, hb.tape.trans HB2.out.tape, hb.output.trans HB2.out.output, Nat.le_trans HB2.out.size hb.size, fun k hk => (hb.block k hk).trans (HB2.out.block k hk)⟩⟩; clear hown hb hc3)
      | (go_at_call 11; (with_reducible refine (clip_calls A3 _ c3 _ HC3.out).mono ?_); rintro e w4 ⟨rfl, ⟨nd, rfl⟩⟩))
    go_ret
    have hr := HE.out
    subst hr
    exact ⟨A3, c3, rfl, HC3.out, pw_own_drewN HO3.out nd, below_drawn HB3.out ⟨nd, rfl⟩⟩
  · rw [dif_neg hh] at h; cases h
end Go.Proofs.YthkpmldjbogngaaDoor.S
