/- GoodsSorts: the program's Sort answers what the reference's does. For every list of texts. -/
import Derived.Test.YtmicghhmbojkfaaDoorSx5
import Derived.Test.YtmicghhmbojkfaaDoorSRef
namespace Go.Proofs.YtmicghhmbojkfaaDoor.SP
open Go.RowKit Go.Proofs.YtmicghhmbojkfaaDoor.S Go.Proofs.YtmicghhmbojkfaaDoor.Ord Go.Proofs.YtmicghhmbojkfaaDoorW.PrintWords Go.Proofs.YtmicghhmbojkfaaDoorW.PrintLast
theorem sorts_l0 (r : List ByteArray) (hr : r.length ≤ 8796093022208) : ∀ (d i : Nat), i + d = r.length → Ev (fun k => barrowlaw02_GoodsSorts.l0 k r r i) true
  | 0, i, hi => Ev.step (f := fun _ => some true) (fun k => by rw [barrowlaw02_GoodsSorts.l0, if_neg (by omega)]) (Ev.now true)
  | d + 1, i, hi => Ev.step (f := fun k => barrowlaw02_GoodsSorts.l0 k r r ((i + 1 : Nat) : Int)) (fun k => by
      rw [barrowlaw02_GoodsSorts.l0, if_pos (by omega), if_pos (by omega), if_pos (by omega), if_pos rfl, up1 i 0 (by omega)]) (sorts_l0 r hr d (i + 1) (by omega))
theorem GoodsSorts (l : List ByteArray) (hok : okB l) (hl : l.length ≤ 8796093022208) : ∃ k, barrowlaw02_GoodsSorts.f k l = some true := by
  have h0 : goods_Sort.f [(⟨#[65, 49, 48]⟩ : ByteArray), (⟨#[65, 50]⟩ : ByteArray)] = some [(⟨#[65, 50]⟩ : ByteArray), (⟨#[65, 49, 48]⟩ : ByteArray)] := by
    obtain ⟨r, h1, h2, h3⟩ := prog_sort [(⟨#[65, 49, 48]⟩ : ByteArray), (⟨#[65, 50]⟩ : ByteArray)] (fun x hx => by
      simp only [List.mem_cons, List.not_mem_nil, or_false] at hx
      rcases hx with rfl | rfl
      · exact of_decide_eq_true rfl
      · exact of_decide_eq_true rfl) (by simp)
    have n1 : natural [65, 50] [65, 49, 48] = -1 := by decide +kernel
    have h4 : SS [(⟨#[65, 50]⟩ : ByteArray), (⟨#[65, 49, 48]⟩ : ByteArray)] := List.pairwise_cons.2 ⟨fun x hx => by
      rw [List.mem_singleton] at hx
      subst hx
      exact n1, by simp⟩
    rw [h1, ss_ext h2 h4 (fun x => by rw [h3 x]; simp only [List.mem_cons, List.not_mem_nil, or_false]; exact Or.comm)]
  obtain ⟨r, p1, p2, p3⟩ := prog_sort l hok hl
  obtain ⟨q, q1, q2, q3, q4⟩ := ref_sort l.length l (Nat.le_refl _) hok hl
  obtain rfl : r = q := ss_ext p2 q2 (fun x => (p3 x).trans (q3 x).symm)
  have hne : ((rdOf ByteArray.empty [(⟨#[65, 50]⟩ : ByteArray), (⟨#[65, 49, 48]⟩ : ByteArray)] 0).toList != ([65, 50] : List UInt8)) = false := by
    rw [ByteArray.toList_eq]; rfl
  refine Ev.rounds (r := true) ?_
  refine Ev.step (f := fun k => (barrowref02_Sort.f k l).bind fun t149 => (goods_Sort.f l).bind fun t152 => if (t152.length : Int) = (t149.length : Int) then barrowlaw02_GoodsSorts.l0 k t149 t152 0 else some false) (fun k => ?_)
    (Ev.bind q1 (Ev.bind (g := fun _ => goods_Sort.f l) ⟨0, fun _ _ => p1⟩ (Ev.congr (fun k => if_pos rfl) (sorts_l0 r (by omega) r.length 0 (by omega)))))
  have e2 : (([(⟨#[65, 50]⟩ : ByteArray), (⟨#[65, 49, 48]⟩ : ByteArray)] : List ByteArray).length : Int) = 2 := rfl
  rw [barrowlaw02_GoodsSorts.f, h0, Option.bind_some, if_pos e2, if_pos (by omega), hne, barrowlaw02_GoodsSorts.j0, if_neg (by decide)]
end Go.Proofs.YtmicghhmbojkfaaDoor.SP
