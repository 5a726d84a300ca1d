/- span.Has answers whether a number from 1 to 1000000000 lies in a run of the list, for every list that the call can read. -/
import Derived.Test.YtmlfbgkaondljaaGx0
import Derived.Test.YtmlfbgkaondljaaShelf
import Derived.Shelf.SlicesQ.IndexFunc
namespace Go.Proofs.Ytmlfbgkaondljaa.G
open Go.RowKit Go.Proofs.YtmlfbgkaondljaaW.PrintWords Go.Proofs.YtmlfbgkaondljaaW.PrintLast Go.Proofs.YtmlfbgkaondljaaW.PrintMore

instance : Inhabited S28 := ⟨z28⟩
def encS (x : S28) : List Value := [.int .i64 x.f0, .int .i64 x.f1]
def inRun (n : Int) (x : S28) : Bool := decide (x.f0 ≤ n) && decide (n ≤ x.f1)
def span_Has.f (l0 : List S28) (a1 : Int) : Option Bool := if 1 ≤ a1 ∧ a1 ≤ 1000000000 then some (l0.any (inRun a1)) else some false

set_option maxHeartbeats 1000000 in
/-- The closure, n in its cell. -/
theorem closure67 (B : Nat) (n : Int) (x : S28) (W : World) (hc : W.cell? ⟨B, 0, none⟩ = some (.int .i64 n)) (hB : B < W.heap.size) :
    Calls Try.prog 19 #[.agg #[.int .i64 x.f0, .int .i64 x.f1], .pointer (some ⟨B, 0, none⟩)] W fun e w' => e = .returned (.bool (inRun n x)) ∧ Below W.heap.size W w' := by
  obtain ⟨a, b⟩ := x
  unfold inRun
  simp only
  by_cases h1 : a ≤ n <;> by_cases h2 : n ≤ b
  all_goals
    go_enter Try.func19, Try.ntmps19
    go_wp2
  all_goals
    go_ret
    exact ⟨by simp [h1, h2], ((Below.refl _ _).alloc (Nat.le_refl _) _)⟩
theorem pred67 (B : Nat) (n : Int) (w : World) (hc : w.cell? ⟨B, 0, none⟩ = some (.int .i64 n)) (hB : B < w.heap.size) :
    PredBelow Try.prog 19 #[.pointer (some ⟨B, 0, none⟩)] (fun x => .agg (encS x).toArray) (inRun n) w := fun W x hb => by
  have hc' : W.cell? ⟨B, 0, none⟩ = some (.int .i64 n) := (hb.cell (p := ⟨B, 0, none⟩) hB).trans hc
  have hB' : B < W.heap.size := Nat.lt_of_lt_of_le hB hb.size
  exact (closure67 B n x W hc' hB').mono fun e w' ⟨he, hb2⟩ => ⟨he, below_then hb hb.size hb2⟩
set_option maxHeartbeats 1000000 in
theorem index_empty (A : Option Addr) (c : Nat) (fv : Value) (w : World) : Calls Try.prog 22 #[.slice A 0 c, fv] w fun e w' => e = .returned (.int .i64 (-1)) ∧ w = w' := by
  go_enter Try.func22, Try.ntmps22
  go_wp2
  go_loop [8] (fun v => v = .int .i64 0) (fun _ => 0)
  case atStart => rfl
  case round =>
    subst hrel
    go_wp2
    go_ret
    exact ⟨rfl, rfl⟩
set_option maxHeartbeats 1000000 in
theorem contains_empty (A : Option Addr) (c : Nat) (fv : Value) (w : World) : Calls Try.prog 18 #[.slice A 0 c, fv] w fun e w' => e = .returned (.bool false) ∧ w = w' := by
  go_enter Try.func18, Try.ntmps18
  go_wp2_with (go_at_call 22; refine (index_empty _ _ _ _).mono ?_; rintro e w' ⟨rfl, rfl⟩)
  go_ret
  exact ⟨rfl, rfl⟩
/-- slices.ContainsFunc over the runs. -/
theorem contains_any (A0 : Option Addr) (c0 : Nat) (l0 : List S28) (B : Nat) (n : Int) (w : World) (hr0 : Kd.C k28 w A0 l0.length l0) (hc : w.cell? ⟨B, 0, none⟩ = some (.int .i64 n)) (hB : B < w.heap.size) :
    Calls Try.prog 18 #[.slice A0 l0.length c0, .func (.func 19) #[] #[.pointer (some ⟨B, 0, none⟩)]] w fun e w' => e = .returned (.bool (l0.any (inRun n))) ∧ Below w.heap.size w w' := by
  cases l0 with
  | nil => exact (contains_empty A0 c0 _ w).mono fun e w' ⟨he, hw⟩ => ⟨he, by subst hw; exact Below.refl _ _⟩
  | cons x t =>
    obtain ⟨ad, e, hx, _⟩ := at_T28 hr0 0 (by omega) (by simp only [List.length_cons]; omega)
    subst e
    rw [show (0 : Int).toNat * 2 = 0 from rfl, show ad.add 0 = ad from by simp [Addr.add]] at hx
    have hsp : ad = ⟨ad.block, ad.off, none⟩ := by
      unfold World.cell? at hx
      obtain ⟨b, o, s⟩ := ad
      cases s with
      | none => rfl
      | some z => simp at hx; split at hx <;> simp at hx
    have hblk : ad.block < w.heap.size := World.block_lt_of_cell? w _ hx
    have hm := Kd.C_max hr0
    have hcon := AnyQ.slices_ContainsFunc Try.hasRun 2 Try.isAgg28 Try.sizeOf28 encS (fun _ => rfl) (inRun n) 19 #[.pointer (some ⟨B, 0, none⟩)] (enters_of Try.func19 (by kernel_rfl) rfl) ad.block ad.off (x :: t).length c0 (x :: t) w (pred67 B n w hc hB) (Nat.le_refl _) hm hblk (by
      intro j hj i v hi
      obtain ⟨ad', e, h0, h1⟩ := at_T28 hr0 (j : Int) (by omega) (by omega)
      cases e
      have hrd : rd_T28 (x :: t) (j : Int) = (x :: t)[j]! := by
        unfold rd_T28
        rw [Int.toNat_natCast, List.getD_eq_getElem?_getD, List.getElem?_eq_getElem hj, getElem!_pos _ j hj]
        rfl
      rw [hrd, Int.toNat_natCast] at h0 h1
      rw [hsp, Addr.add_lit] at h0 h1
      unfold encS at hi
      match i with
      | 0 =>
        simp only [List.getElem?_cons_zero, Option.some.injEq] at hi
        subst hi
        exact h0
      | 1 =>
        simp only [List.getElem?_cons_succ, List.getElem?_cons_zero, Option.some.injEq] at hi
        subst hi
        exact h1
      | i + 2 => simp at hi)
    change Calls Try.prog 18 _ _ _ at hcon
    rw [List.take_length, ← hsp] at hcon
    exact hcon
set_option maxHeartbeats 1000000 in
theorem span_Has.calls (A0 : Option Addr) (c0 : Nat) (l0 : List S28) (a1 : Int) (r : Bool) (w : World) (hr0 : Kd.C k28 w A0 l0.length l0) (_hc0 : l0.length ≤ c0) (h : span_Has.f l0 a1 = some r) :
    Calls Try.prog 10 #[.slice A0 l0.length c0, .int .i64 a1] w fun e w' => e = .returned (.bool r) ∧ Below w.heap.size w w' := by
  unfold span_Has.f at h
  have HR := Aside0.mk hr0
  clear hr0
  by_cases h1 : 1 ≤ a1
  · by_cases h2 : a1 ≤ 1000000000
    · rw [if_pos ⟨h1, h2⟩] at h
      simp only [Option.some.injEq] at h
      have hcon := fun W (hW : Kd.C k28 W A0 l0.length l0) B (hc : W.cell? ⟨B, 0, none⟩ = some (.int .i64 a1)) hB => contains_any A0 c0 l0 B a1 W hW hc hB
      rw [h] at hcon
      have HC := Aside0.mk hcon
      clear hcon h
      have n1 : ¬ a1 < 1 := by omega
      have n2 : ¬ 1000000000 < a1 := by omega
      go_enter Try.func10, Try.ntmps10
      go_wp2_with (go_at_call 18; refine (HC.out _ (Kd.C_alloc HR.out _) w.heap.size (by simp) (by simp)).mono ?_; rintro e w' ⟨rfl, hb⟩)
      go_ret
      exact ⟨rfl, ((Below.refl _ _).alloc (Nat.le_refl _) _).trans (hb.mono (by simp))⟩
    · rw [if_neg (fun hh => h2 hh.2)] at h
      simp only [Option.some.injEq] at h
      subst h
      have n1 : ¬ a1 < 1 := by omega
      have n2 : 1000000000 < a1 := by omega
      go_enter Try.func10, Try.ntmps10
      go_wp2
      go_ret
      exact ⟨rfl, (Below.refl _ _).alloc (Nat.le_refl _) _⟩
  · rw [if_neg (fun hh => h1 hh.1)] at h
    simp only [Option.some.injEq] at h
    subst h
    have n1 : a1 < 1 := by omega
    go_enter Try.func10, Try.ntmps10
    go_wp2
    go_ret
    exact ⟨rfl, (Below.refl _ _).alloc (Nat.le_refl _) _⟩
end Go.Proofs.Ytmlfbgkaondljaa.G
