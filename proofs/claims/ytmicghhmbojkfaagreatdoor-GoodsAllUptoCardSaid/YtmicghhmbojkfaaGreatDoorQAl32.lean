import Derived.Test.YtmicghhmbojkfaaGreatDoorQAl31
import Derived.Test.YtmicghhmbojkfaaGreatDoorQAl24
import Derived.Test.YtmicghhmbojkfaaGreatDoorQAl28
import Derived.Test.YtmicghhmbojkfaaGreatDoorQAl29
import Derived.Test.YtmicghhmbojkfaaGreatDoorQAl21
/- GoodsAll: every call of a script is as the reference has it. For every script whose lists are of bulk at most 1048576. -/
namespace Go.Proofs.YtmicghhmbojkfaaGreatDoor.PL
open Go.RowKit Go.Proofs.YtmicghhmbojkfaaGreatDoor.G Go.Proofs.YtmicghhmbojkfaaGreatDoor.Fr Go.Proofs.YtmicghhmbojkfaaGreatDoor.Ord Go.Proofs.YtmicghhmbojkfaaGreatDoorW.PrintWords Go.Proofs.YtmicghhmbojkfaaGreatDoorW.PrintLast
theorem isNum_same (a b : Int) : barrowlaw02_isNum.f a b a b = some true := by unfold barrowlaw02_isNum.f; rw [if_pos rfl]; simp
theorem isText_same (a : ByteArray) (b : Int) : barrowlaw02_isText.f a b a b = some true := by unfold barrowlaw02_isText.f; rw [if_pos rfl]; simp
theorem name_same (x : S35) : Ev (fun k => barrowlaw02_name.f k x.f0 x.f1 x.f2 x.f3 x.f4) true := by
  refine ⟨4000, fun k hk => ?_⟩
  show barrowlaw02_name.f k x.f0 x.f1 x.f2 x.f3 x.f4 = some true
  unfold barrowlaw02_name.f
  by_cases h1 : x.f0 = 1
  · rw [if_pos h1, goods_Good.f, barrowref02_Good.f, check_eq _ k (by omega), PC.rcheck_eq _ k (by omega)]
    simp only [Option.bind_some]
    rw [isNum_same, Option.bind_some, if_pos rfl]; simp
  · obtain ⟨v, hv, hr⟩ := PC.clean_same x.f1
    rw [if_neg h1, hv, hr k (by omega)]
    simp only [Option.bind_some]
    rw [isText_same, Option.bind_some, if_pos rfl]
    by_cases h11 : x.f0 = 11
    · rw [if_pos h11, check_eq _ k (by omega), PC.rcheck_eq _ k (by omega)]
      simp only [Option.bind_some]
      rw [isNum_same]; rfl
    · rw [if_neg h11]
theorem article_same (x : S35) : Ev (fun k => barrowlaw02_article.f k x.f0 x.f1 x.f2 x.f3 x.f4) true := by
  refine ⟨100, fun k hk => ?_⟩
  show barrowlaw02_article.f k x.f0 x.f1 x.f2 x.f3 x.f4 = some true
  unfold barrowlaw02_article.f
  by_cases h3 : x.f0 = 3
  · rw [if_pos h3, PA.digit_eq _ k (by omega), PA.rdigitf_eq _ k (by omega), Option.bind_some, Option.bind_some, isNum_same]; rfl
  · rw [if_neg h3]
    by_cases h4 : x.f0 = 4
    · rw [if_pos h4, PA.gtin_eq _ k (by omega), PA.rgtin_eq _ k (by omega), Option.bind_some, Option.bind_some, isNum_same]; rfl
    · obtain ⟨r, hr, hb⟩ := PA.widen_eq x.f1 k (by omega)
      obtain ⟨r', hr', hb'⟩ := PA.rwiden_eq x.f1 k (by omega)
      obtain rfl : r = r' := bytesOf_inj (hb.trans hb'.symm)
      rw [if_neg h4, hr, hr', Option.bind_some, Option.bind_some, isText_same]; rfl
theorem match_same (a b : ByteArray) : Ev (fun k => barrowlaw02_match.f k a b) true := by
  refine ⟨6000, fun k hk => ?_⟩
  show barrowlaw02_match.f k a b = some true
  have e : ∀ (x : Bool) (y : Int), barrowlaw02_isBool.f x y x y = some true := fun x y => by unfold barrowlaw02_isBool.f; rw [if_pos (by simp)]; simp
  unfold barrowlaw02_match.f
  rw [PM.match_eq _ _ k (by omega), PM.rmatch_eq _ _ k (by omega), Option.bind_some, Option.bind_some, e]; rfl
theorem quantity_same (x : S35) (hx : x.f4.length ≤ 1048576) : Ev (fun k => barrowlaw02_quantity.f k x.f0 x.f1 x.f2 x.f3 x.f4) true := by
  refine ⟨2 * x.f4.length + 1000, fun k hk => ?_⟩
  show barrowlaw02_quantity.f k x.f0 x.f1 x.f2 x.f3 x.f4 = some true
  unfold barrowlaw02_quantity.f
  by_cases h8 : x.f0 = 8
  · rw [if_pos h8, goods_ParseQty.f, PQ.rparse_eq _ k (by omega), Option.bind_some, Option.bind_some, isNum_same]; rfl
  · rw [if_neg h8]
    by_cases h9 : x.f0 = 9
    · obtain ⟨v, h1, h2⟩ := PQ.print_same x.f3 k (by omega)
      rw [if_pos h9, h1, h2, Option.bind_some, Option.bind_some, isText_same]; rfl
    · rw [if_neg h9, PQ.rtotal_eq _ hx k (by omega), PQ.total_eq _ hx k (by omega), Option.bind_some, Option.bind_some, isNum_same]; rfl
theorem orders_same (x : S35) (h : OpOk x) : ∃ c, Ev (fun k => goods_Compare.f k x.f1 x.f2) c ∧ Ev (fun k => barrowref02_Compare.f k x.f1 x.f2) c := by
  have ha := h.a; have hb := h.b
  exact ⟨_, ⟨_, fun k hk => PD.compare_eq x.f1 x.f2 (by omega) (by omega) k hk⟩, ⟨_, fun k hk => PD.rcompare_eq x.f1 x.f2 (by omega) (by omega) k hk⟩⟩
theorem play_same (x : S35) (hok : OpOk x) (hsm : x.f4.length ≤ 1048576) : PlayOk x :=
  plays_of x (fun _ => name_same x) (fun _ => article_same x) (fun _ => match_same _ _) (fun _ => match_same _ _) (fun _ => orders_same x hok) (fun _ => quantity_same x hsm)
theorem all_l0 (xs : List S35) (hx : xs.length ≤ 1152921504606846976) (hp : ∀ x ∈ xs, PlayOk x) : ∀ (d i : Nat), i + d = xs.length → Ev (fun k => barrowlaw02_GoodsAll.l0 k xs i) true
  | 0, i, hi => Ev.step (f := fun _ => some true) (fun k => by rw [barrowlaw02_GoodsAll.l0, if_neg (by omega)]) (Ev.now true)
  | d + 1, i, hi => by
    have ih := all_l0 xs hx hp d (i + 1) (by omega)
    have hi' : i < xs.length := by omega
    have hw := wrap_up i (by omega)
    refine Ev.step (f := fun k => (barrowlaw02_plays.f k xs[i].f0 xs[i].f1 xs[i].f2 xs[i].f3 xs[i].f4).bind fun t => if t = true then barrowlaw02_GoodsAll.l0 k xs ((i + 1 : Nat) : Int) else some false) (fun k => ?_)
      (Ev.bind (hp _ (List.getElem_mem hi')) (Ev.congr (fun k => if_pos rfl) ih))
    rw [barrowlaw02_GoodsAll.l0, if_pos (by clear hw; omega), if_pos (by clear hw; omega), rd_at xs i hi', hw]
theorem GoodsAll (l : List S35) (hl : l.length ≤ 140737488351232) (hok : ∀ x ∈ l, OpOk x) (hsm : ∀ x ∈ l, x.f4.length ≤ 1048576) : ∃ k, barrowlaw02_GoodsAll.f k l = some true := by
  have h0 : Ev (fun k => goods_Compare.f k (⟨#[66]⟩ : ByteArray) (⟨#[65, 49, 48, 48]⟩ : ByteArray)) 1 := by
    have n1 : natural [66] [65, 49, 48, 48] = 1 := by decide +kernel
    have s1 : ((⟨#[66]⟩ : ByteArray)).size = 1 := rfl
    have s2 : ((⟨#[65, 49, 48, 48]⟩ : ByteArray)).size = 4 := rfl
    exact ⟨100, fun k hk => (PD.compare_eq _ _ (by omega) (by omega) k (by omega)).trans (congrArg some n1)⟩
  have h1 := all_l0 l (by omega) (fun x hx => play_same x (hok x hx) (hsm x hx)) l.length 0 (by omega)
  refine Ev.rounds (r := true) ?_
  unfold barrowlaw02_GoodsAll.f
  exact Ev.bind h0 (Ev.congr (fun k => if_pos rfl) h1)
end Go.Proofs.YtmicghhmbojkfaaGreatDoor.PL
