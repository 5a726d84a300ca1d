/- barrowlaw02.holds: does every text of b stand in a? Walked where it does. -/
import Derived.Test.YthkpmldjbogngaaDoorSx0
import Derived.Maps.OwnOps
import Derived.Maps.Views
import Derived.WalkSpells
namespace Go.Proofs.YthkpmldjbogngaaDoor.S
open Go.RowKit Go.Proofs.YthkpmldjbogngaaDoorW.PrintWords Go.Proofs.YthkpmldjbogngaaDoorW.PrintLast Go.Proofs.YthkpmldjbogngaaDoorW.PrintMore
open Go.Maps Go.WideMaps
theorem lawS : Keyed Tryd.prog 9 := string_keyed Tryd.underlying9
theorem zero3 (w : World) : (zeroValue 3).run Tryd.prog w = .ok (.int .i64 0) w := by kernel_rfl
def keyS (s : ByteArray) : Lit := .string s.data.toList
theorem key_S {s : ByteArray} (h : s.size ≤ maxLen) : keyOf Tryd.prog 9 (.string s) = some (keyS s) := keyOf_string_mk Tryd.underlying9 h
def one1 : DataW Unit := .lit (.int .i64 1)
def setD (l : List ByteArray) : DataW Unit := l.foldl (fun d s => d.put (keyS s) one1) (.map [])
theorem setD_snoc (l : List ByteArray) (x : ByteArray) : setD (l ++ [x]) = (setD l).put (keyS x) one1 := by
  unfold setD
  rw [List.foldl_append]
  rfl
theorem put_isMap {D : DataW Unit} (h : IsMap D) (k : Lit) (d : DataW Unit) : IsMap (D.put k d) := by
  obtain ⟨es, rfl⟩ := h
  exact ⟨_, rfl⟩
theorem rev_ind {α : Type} {p : List α → Prop} (h0 : p []) (h1 : ∀ l x, p l → p (l ++ [x])) (l : List α) : p l := by
  have h : ∀ r : List α, p r.reverse := by
    intro r
    induction r with
    | nil => exact h0
    | cons x r ih => rw [List.reverse_cons]; exact h1 _ _ ih
  have := h l.reverse
  rwa [List.reverse_reverse] at this
theorem setD_isMap (l : List ByteArray) : IsMap (setD l) :=
  rev_ind (p := fun l => IsMap (setD l)) ⟨[], rfl⟩ (fun l x ih => by rw [setD_snoc]; exact put_isMap ih _ _) l
theorem keyS_inj {x y : ByteArray} (h : keyS x = keyS y) : x = y := by
  have h1 : x.data.toList = y.data.toList := by injection h
  have h2 : x.data = y.data := Array.toList_inj.1 h1
  cases x; cases y; exact congrArg _ h2
theorem setD_at {x : ByteArray} (z : DataW Unit) (l : List ByteArray) (h : x ∈ l) : (setD l).atKey (keyS x) z = one1 := by
  revert h
  refine rev_ind (p := fun l => x ∈ l → (setD l).atKey (keyS x) z = one1) (fun h => by cases h) (fun l y ih h => ?_) l
  rw [setD_snoc]
  by_cases e : y = x
  · subst e
    exact atKey_put_same (setD_isMap l) (by exact trivial) _ _
  · rw [atKey_put_other (fun h2 => e (keyS_inj h2).symm)]
    refine ih ?_
    rcases List.mem_append.1 h with h | h
    · exact h
    · exact absurd (List.mem_singleton.1 h).symm e
theorem str_at {w : World} {A : Option Addr} {l : List ByteArray} (h : Kd.C Kd.string w A l.length l) (i : Nat) (hi : i < l.length) : ∃ ad, A = some ad ∧ w.cell? (ad.add i) = some (.string (l.getD i ByteArray.empty)) := by
  obtain ⟨ad, e, hc⟩ := Kd.at_string h (i : Int) (by omega) (by omega)
  rw [Int.toNat_natCast] at hc
  exact ⟨ad, e, by rw [hc]; unfold rdOf; rw [Int.toNat_natCast]⟩
theorem take_getD {l : List ByteArray} {i : Nat} (h : i < l.length) : l.take (i + 1) = l.take i ++ [l.getD i ByteArray.empty] := by
  rw [List.take_add_one, List.getD_eq_getElem?_getD, List.getElem?_eq_getElem h]; rfl
theorem getD_mem {l : List ByteArray} {i : Nat} (h : i < l.length) : l.getD i ByteArray.empty ∈ l := by
  rw [List.getD_eq_getElem?_getD, List.getElem?_eq_getElem h]; exact List.getElem_mem _
set_option maxHeartbeats 1000000 in
set_option maxRecDepth 100000 in
theorem holds_calls (A : Option Addr) (ca : Nat) (a : List ByteArray) (B : Option Addr) (cb : Nat) (b : List ByteArray) (w : World) (ha : Kd.C Kd.string w A a.length a) (hb : Kd.C Kd.string w B b.length b)
    (hab : ∀ x ∈ b, x ∈ a) (hok : ∀ x ∈ a, x.size ≤ maxLen) (la : a.length ≤ 8796093022208) (lb : b.length ≤ 8796093022208) :
    Calls Tryd.prog 7 #[.slice A a.length ca, .slice B b.length cb] w fun e w' => e = .returned (.bool true) ∧ Below w.heap.size w w' := by
  have hmm := @run_makeMap Tryd.prog
  have HA := Aside0.mk ha
  have HB := Aside0.mk hb
  have HAB := Aside0.mk hab
  have HOK := Aside0.mk hok
  clear ha hb hab hok
  go_enter Tryd.func7, Tryd.ntmps7
  go_wp2
  go_loopw [6] (fun i wr => ∃ k : Nat, k ≤ a.length ∧ i = .int .i64 k ∧ Aside0 (wr.ownsMap Tryd.prog 9 (plainElem Tryd.prog 3) w.heap.size k (setD (a.take k)) ∧ Below w.heap.size w wr)) (fun i _ => a.length - (intOf i).toNat)
  case atStart => exact ⟨0, Nat.zero_le _, rfl, ⟨World.ownsMap_made _ _ _ _, (Below.refl _ _).alloc (Nat.le_refl _) _⟩⟩
  case round =>
    obtain ⟨k, hk, rfl, hR⟩ := hrel
    by_cases hlt : k < a.length
    · obtain ⟨ad, rfl, hc⟩ := str_at (Kd.C_below HA.out hR.out.2) k hlt
      obtain ⟨s, hs⟩ : ∃ s, a.getD k ByteArray.empty = s := ⟨_, rfl⟩
      rw [hs] at hc
      have hT := Aside0.mk (take_getD hlt)
      rw [hs] at hT
      have hkey := Aside0.mk (key_S (HOK.out s (hs ▸ getD_mem hlt)))
      have hl1 : ((k : Int) < (a.length : Int)) = True := eq_true (by omega)
      have hl2 : (0 : Int) ≤ (k : Int) := by omega
      clear hs
      go_wp2_with (first
        | (at_mapUpdate; refine wpList_mapUpdate_own _ rfl _ _ _ 32 rfl 9 3 lawS Tryd.underlying32 _ w.heap.size k _ rfl hR.out.1 (by unfold maxLen; omega) _ _ _ rfl rfl hkey.out _ [] (plainElem_int Tryd.underlying3 (by decide)) ?_; intro w1 hown1 hgrow1; have R1 := Aside0.mk hown1; have R2 := Aside0.mk (hR.out.2.grown hgrow1 hR.out.2.size (fun j hj => by cases hj; exact Nat.le_refl _)); clear hown1 hgrow1)
        | go_in)
      go_roundw
      case rel => exact ⟨k + 1, by omega, by go_num, ⟨by rw [hT.out, setD_snoc]; exact R1.out, R2.out⟩⟩
      case measure => simp [intOf]; omega
    · have hl1 : ((k : Int) < (a.length : Int)) = False := eq_false (by omega)
      obtain rfl : k = a.length := by omega
      have HD := Aside0.mk (show ∀ x ∈ b, (setD (a.take a.length)).atKey (keyS x) (.lit (.int .i64 0)) = one1 from fun x hx => by rw [List.take_length]; exact setD_at _ a (HAB.out x hx))
      have HOB := Aside0.mk (show ∀ x ∈ b, x.size ≤ maxLen from fun x hx => HOK.out x (HAB.out x hx))
      go_wp2
      go_loop [7] (fun i => ∃ k : Nat, k ≤ b.length ∧ i = .int .i64 k) (fun i => b.length - (intOf i).toNat)
      case atStart => exact ⟨0, Nat.zero_le _, rfl⟩
      case round =>
        obtain ⟨k, hk2, rfl⟩ := hrel
        by_cases hlt2 : k < b.length
        · obtain ⟨ad, rfl, hc⟩ := str_at (Kd.C_below HB.out hR.out.2) k hlt2
          obtain ⟨s, hs⟩ : ∃ s, b.getD k ByteArray.empty = s := ⟨_, rfl⟩
          rw [hs] at hc
          have hkey := Aside0.mk (key_S (HOB.out s (hs ▸ getD_mem hlt2)))
          have hat1 := Aside0.mk (HD.out s (hs ▸ getD_mem hlt2))
          have hl3 : ((k : Int) < (b.length : Int)) = True := eq_true (by omega)
          have hl4 : (0 : Int) ≤ (k : Int) := by omega
          clear hs
          go_wp2_with (first
            | (at_lookup; refine wpList_lookup_own_int _ rfl _ _ 32 rfl 9 3 .i64 lawS Tryd.underlying32 Tryd.underlying3 (zero3 _) w.heap.size _ _ rfl hR.out.1 _ _ rfl hkey.out ?_; intro c hat hwc; obtain rfl : c = 1 := (by have h1 := hat.symm.trans hat1.out; unfold one1 at h1; injection h1 with h1; injection h1); clear hat hwc)
            | go_in)
          go_round
          case rel => exact ⟨k + 1, by omega, by go_num⟩
          case measure => simp [intOf]; omega
        · have hl3 : ((k : Int) < (b.length : Int)) = False := eq_false (by omega)
          go_wp2
          go_ret
          exact ⟨rfl, hR.out.2⟩
end Go.Proofs.YthkpmldjbogngaaDoor.S
