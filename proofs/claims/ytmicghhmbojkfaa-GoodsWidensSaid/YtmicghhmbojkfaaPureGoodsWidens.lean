/- GoodsWidens: the wide form of an article number is the number with 0s in front; Gtin and Widen refuse alike. For every text; no condition. -/
import Derived.Test.YtmicghhmbojkfaaGx20
import Derived.Test.YtmicghhmbojkfaaArt
namespace Go.Proofs.Ytmicghhmbojkfaa.Pure
open Go.Proofs.Ytmicghhmbojkfaa.G hiding bytesOf_length
open Go.RowKit Go.Proofs.YtmicghhmbojkfaaW.PrintWords Go.Proofs.YtmicghhmbojkfaaW.PrintLast

theorem widens_l0 (x w : ByteArray) (m : Nat) (hm : m + x.size = 14) (hw : bytesOf w = List.replicate m 48 ++ bytesOf x) : ∀ (d i k : Nat), i + d = m → d < k →
    barrowlaw02_GoodsWidens.l0 k x w (x.size : Int) i = some true
  | 0, i, k, hd, hk => by
    obtain ⟨k, rfl⟩ : ∃ q, k = q + 1 := ⟨k - 1, by omega⟩
    have hs : w.size = 14 := by rw [← bytesOf_length, hw, List.length_append, List.length_replicate, bytesOf_length]; omega
    have hwr : wrap64 (14 - (x.size : Int)) = (m : Int) := by unfold wrap64; omega
    simp only [barrowlaw02_GoodsWidens.l0]
    rw [hwr, if_neg (by omega), if_pos (by omega), if_pos (by omega), Int.toNat_natCast]
    have : w.extract m w.size = x := by
      apply bytesOf_inj
      rw [bytesOf_extract, hw, List.drop_left' (by simp)]
    rw [this]
    simp
  | d + 1, i, k, hd, hk => by
    obtain ⟨k, rfl⟩ : ∃ q, k = q + 1 := ⟨k - 1, by omega⟩
    have hs : w.size = 14 := by rw [← bytesOf_length, hw, List.length_append, List.length_replicate, bytesOf_length]; omega
    have hwr : wrap64 (14 - (x.size : Int)) = (m : Int) := by unfold wrap64; omega
    have hw1 : wrap64 ((i : Int) + 1) = ((i + 1 : Nat) : Int) := by unfold wrap64; omega
    have hb : bt w i = 48 := by
      rw [bt_getD, hw, Int.toNat_natCast, List.getD_eq_getElem?_getD, List.getElem?_append_left (by simp; omega), List.getElem?_replicate, if_pos (by omega)]; rfl
    simp only [barrowlaw02_GoodsWidens.l0]
    rw [hwr, if_pos (by omega), if_pos (by omega), if_pos (by omega), if_pos hb, hw1]
    exact widens_l0 x w m hm hw d (i + 1) k (by omega) (by omega)

theorem GoodsWidens : barrowlaw02_GoodsWidens.Pure := by
  intro a0 _
  refine ⟨100, ?_⟩
  unfold barrowlaw02_GoodsWidens.f
  obtain ⟨r, hr, hb⟩ := widen_eq (⟨#[55, 51, 53, 49, 51, 53, 51, 55]⟩ : ByteArray) 100 (by omega)
  have e : widenL (bytesOf (⟨#[55, 51, 53, 49, 51, 53, 51, 55]⟩ : ByteArray)) = ([48, 48, 48, 48, 48, 48, 55, 51, 53, 49, 51, 53, 51, 55], 0) := by decide +kernel
  rw [e] at hb hr
  have hr2 : r = strOfNums [48, 48, 48, 48, 48, 48, 55, 51, 53, 49, 51, 53, 51, 55] := by rw [← str_bytesOf r, hb]
  rw [hr]
  simp only [Option.bind_some]
  rw [if_pos (by rw [hr2, ByteArray.toList_eq]; decide +kernel)]
  simp only [barrowlaw02_GoodsWidens.j0]
  rw [if_neg (by decide), gtin_eq a0 99 (by omega)]
  obtain ⟨w, hw, hwb⟩ := widen_eq a0 99 (by omega)
  rw [hw]
  simp only [Option.bind_some]
  by_cases h : (gtinL (bytesOf a0)).2 = 0
  · obtain ⟨hl, h1, _⟩ := gtin_len _ h
    rw [bytesOf_length] at hl h1
    have hwl : widenL (bytesOf a0) = (List.replicate (14 - a0.size) 48 ++ bytesOf a0, 0) := by unfold widenL; rw [if_pos h, bytesOf_length]
    rw [hwl] at hwb ⊢
    have hs : w.size = 14 := by rw [← bytesOf_length, hwb, List.length_append, List.length_replicate, bytesOf_length]; omega
    rw [if_pos h, if_pos rfl, if_pos h1, hs]
    simp only [barrowlaw02_GoodsWidens.j1]
    rw [if_neg (by decide), h1]
    have := widens_l0 a0 w (14 - a0.size) (by omega) hwb (14 - a0.size) 0 98 (by omega) (by omega)
    simpa using this
  · have hwl : widenL (bytesOf a0) = ([], (gtinL (bytesOf a0)).2) := by unfold widenL; rw [if_neg h]
    rw [hwl] at hwb ⊢
    rw [if_neg h, if_pos (gtin_no _ h), if_pos ((bytesOf_nil w).2 hwb)]
    simp
end Go.Proofs.Ytmicghhmbojkfaa.Pure
