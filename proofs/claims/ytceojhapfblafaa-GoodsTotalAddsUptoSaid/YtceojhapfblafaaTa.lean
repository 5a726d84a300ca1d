/- GoodsTotalAdds: the walk of the law. -/
import Derived.Test.YtceojhapfblafaaTb
namespace Go.Proofs.Ytceojhapfblafaa.G
open Go.RowKit Go.Proofs.YtceojhapfblafaaW.PrintWords Go.Proofs.YtceojhapfblafaaW.PrintLast Go.Proofs.YtceojhapfblafaaW.PrintMore
set_option linter.unusedVariables false
theorem info3 : (Try.prog.info? 3).map (fun i => (i.zero, i.size, i.bytes)) = some (some (.int .i64 0), 1, 8) := by kernel_rfl
def toN : Value → Nat
  | .int _ n => n.toNat
  | _ => 0
theorem wrap_succ {i na nb : Nat} (h : i ≤ na + nb + 9) (sa : na ≤ 1048576) (sb : nb ≤ 1048576) : wrap64 ((i : Int) + 1) = ((i + 1 : Nat) : Int) := by unfold wrap64; omega
theorem wrap_back {i j na nb : Nat} (e : (i : Int) - na = (j : Int)) (h : i ≤ na + nb + 9) (sa : na ≤ 1048576) (sb : nb ≤ 1048576) : wrap64 ((i : Int) - na) = (j : Int) := by unfold wrap64; omega
theorem wrap_small {j nb : Nat} (h : j < nb) (sb : nb ≤ 1048576) : wrap64 (j : Int) = (j : Int) := by unfold wrap64; omega
theorem meas {i n : Nat} (h : i < n) : n - ((i + 1 : Nat) : Int).toNat < n - (i : Int).toNat := by omega
theorem all_size {la lb : List Int} {na nb : Nat} (ha : la.length = na) (hb : lb.length = nb) : (allC la lb).size = na + nb + 9 := by
  simp [allC, iv, ha, hb]; omega
theorem ones_step {cur : Array Value} {i n : Nat} (hs : cur.size = n) (hi : i < n) (h : ∀ j, j < i → cur[j]? = some (.int .i64 1)) : ∀ j, j < i + 1 → (cur.setIfInBounds i (.int .i64 1))[j]? = some (.int .i64 1) := by
  intro j hj
  by_cases e : i = j
  · subst e; rw [Array.getElem?_setIfInBounds_self_of_lt (by omega)]
  · rw [Array.getElem?_setIfInBounds_ne e]; exact h j (by omega)
theorem ones_C {w : World} {g n : Nat} {cur : Array Value} (hn : n ≤ 9223372036854775807) (hg : w.heap[g]? = some (.cells cur 3 (0, 0))) (h : ∀ j, j < n → cur[j]? = some (.int .i64 1)) : Kd.C (Kd.int .i64) w (some ⟨g, 0, none⟩) n (List.replicate n 1) := by
  have e : (List.replicate n (1 : Int)).length = n := List.length_replicate
  have := C_of_iv (w := w) (ad := ⟨g, 0, none⟩) (l := List.replicate n 1) (by rw [e]; exact hn) (fun j u hu => by
    unfold iv at hu
    rw [List.map_replicate, List.getElem?_replicate] at hu
    split at hu
    · next hj =>
      cases hu
      have e2 : (⟨g, 0, none⟩ : Addr).add j = ⟨g, j, none⟩ := by unfold Addr.add; split <;> simp_all
      rw [e2]
      simp only [World.cell?, hg]
      simpa using h j hj
    · cases hu)
  rw [e] at this
  exact this
theorem cell_of {w : World} {g i : Nat} {cur : Array Value} {u : Value} (hg : w.heap[g]? = some (.cells cur 3 (0, 0))) (hu : cur[i]? = some u) : w.cell? ⟨g, i, none⟩ = some u := by
  simp only [World.cell?, hg]
  simpa using hu
theorem frz_of {w : World} {g : Nat} {cur : Array Value} (hg : w.heap[g]? = some (.cells cur 3 (0, 0))) (i : Nat) : w.frozen? ⟨g, i, none⟩ = false := by
  simp [World.frozen?, hg]
theorem sum_ones (n : Nat) : sumL (List.replicate n 1) = n := by
  induction n with
  | zero => rfl
  | succ n ih => rw [List.replicate_succ]; show 1 + sumL _ = _; rw [ih]; omega
theorem ones_tot {n : Nat} (h : (n : Int) ≤ 1000000) : totL (List.replicate n 1) = ((n : Int), 0) := by
  have hb : (List.replicate n (1 : Int)).any badQ = false := by
    rw [List.any_eq_false]
    intro q hq
    obtain ⟨_, rfl⟩ := List.mem_replicate.1 hq
    decide
  unfold totL
  rw [hb, sum_ones, if_neg (by decide), if_neg (by omega)]
theorem sum_app (la lb : List Int) : sumL (la ++ lb) = sumL la + sumL lb := by
  induction la with
  | nil => simp [sumL]
  | cons q t ih => rw [List.cons_append]; show q + sumL _ = q + sumL t + _; rw [ih]; omega
theorem sum_good {l : List Int} (h : l.any badQ = false) : 0 ≤ sumL l := by
  induction l with
  | nil => exact Int.le_refl _
  | cons q t ih =>
    rw [List.any_cons, Bool.or_eq_false_iff] at h
    have h1 : badQ q = false := h.1
    have h2 := ih h.2
    simp only [badQ, Bool.or_eq_false_iff, decide_eq_false_iff_not] at h1
    show 0 ≤ q + sumL t
    omega
theorem tot_cases {la lb : List Int} {x f y g z h : Int} (hx : (totL la).1 = x) (hf : (totL la).2 = f) (hy : (totL lb).1 = y) (hg : (totL lb).2 = g) (hz : (totL (la ++ lb)).1 = z) (hh : (totL (la ++ lb)).2 = h) :
    (f = 6 ∧ h = 6 ∧ z = 0) ∨ (f = 13 ∧ g = 6 ∧ h = 6 ∧ z = 0) ∨ (f = 0 ∧ g = 6 ∧ h = 6 ∧ z = 0) ∨ (f = 13 ∧ g = 0 ∧ h = 13 ∧ z = 0) ∨ (f = 13 ∧ g = 13 ∧ h = 13 ∧ z = 0) ∨ (f = 0 ∧ g = 13 ∧ h = 13 ∧ z = 0)
      ∨ (f = 0 ∧ g = 0 ∧ h = 13 ∧ z = 0 ∧ wrap64 (x + y) > 1000000) ∨ (f = 0 ∧ g = 0 ∧ h = 0 ∧ z = x + y ∧ wrap64 (x + y) = x + y ∧ ¬ x + y > 1000000) := by
  have hs := sum_app la lb
  have ha : (la ++ lb).any badQ = (la.any badQ || lb.any badQ) := List.any_append
  subst hx hf hy hg hz hh
  cases h1 : la.any badQ with
  | true => left; simp [totL, ha, h1]
  | false =>
    have p1 := sum_good h1
    cases h2 : lb.any badQ with
    | true =>
      by_cases q1 : sumL la > 1000000
      · right; left; simp [totL, ha, h1, h2, q1]
      · right; right; left; simp [totL, ha, h1, h2, q1]
    | false =>
      have p2 := sum_good h2
      by_cases q1 : sumL la > 1000000
      · have q3 : sumL (la ++ lb) > 1000000 := by omega
        by_cases q2 : sumL lb > 1000000
        · right; right; right; right; left; simp [totL, ha, h1, h2, q1, q2, q3]
        · right; right; right; left; simp [totL, ha, h1, h2, q1, q2, q3]
      · by_cases q2 : sumL lb > 1000000
        · have q3 : sumL (la ++ lb) > 1000000 := by omega
          right; right; right; right; right; left; simp [totL, ha, h1, h2, q1, q2, q3]
        · have e : wrap64 (sumL la + sumL lb) = sumL la + sumL lb := by unfold wrap64; omega
          by_cases q3 : sumL (la ++ lb) > 1000000
          · right; right; right; right; right; right; left
            simp [totL, ha, h1, h2, q1, q2, q3]; rw [e]; omega
          · right; right; right; right; right; right; right
            simp [totL, ha, h1, h2, q1, q2, q3]; rw [e]; omega
def Stop (p : Prop) : Prop := p
theorem stop_ {p : Prop} (h : Stop p) : p := h
theorem calls_total (w : World) (A0 : Option Addr) (n c : Nat) (l : List Int) (hn : l.length = n) (hl : l.length ≤ 4000000) (hC : Kd.C (Kd.int .i64) w A0 n l) (hc : n ≤ c) :
    Calls Try.prog 4 #[.slice A0 n c] w fun e w' => e = .returned (.tuple #[.int .i64 (totL l).1, .int .i64 (totL l).2]) ∧ ∃ q, w' = w.drewN q := by
  subst hn
  obtain ⟨k, hk⟩ := total_eq l hl
  exact (goods_Total.calls k A0 c l _ _ w hC hc hk).mono fun e w' ⟨he, hd⟩ => ⟨he, hd.out⟩
set_option maxRecDepth 100000 in
set_option maxHeartbeats 40000000 in
theorem law_in (W : World) (A0 B0 : Option Addr) (ca cb : Nat) (la lb : List Int) (hA : Kd.C (Kd.int .i64) W A0 la.length la) (hB : Kd.C (Kd.int .i64) W B0 lb.length lb) (hca : la.length ≤ ca) (hcb : lb.length ≤ cb) (hna : A0 = none → ca = 0) (hnb : B0 = none → cb = 0)
    (sa : la.length ≤ 1048576) (sb : lb.length ≤ 1048576) :
    Calls Try.prog 3 #[.slice A0 la.length ca, .slice B0 lb.length cb] W fun e w' => e = .returned (.bool true) ∧ Below W.heap.size W w' := by
  obtain ⟨i0, hi, hz0, hz1, hz2⟩ := info_parts info3
  have HA := Aside0.mk hA; have HB := Aside0.mk hB
  clear hA hB
  obtain ⟨na, hna'⟩ : ∃ na, la.length = na := ⟨_, rfl⟩
  obtain ⟨nb, hnb'⟩ : ∃ nb, lb.length = nb := ⟨_, rfl⟩
  have LA := Aside0.mk hna'; have LB := Aside0.mk hnb'
  rw [hna'] at hca sa HA ⊢; rw [hnb'] at hcb sb HB ⊢
  clear hna' hnb'
  have hw1 : wrap64 ((na : Int) + nb) = na + nb := by unfold wrap64; omega
  have hw2 : wrap64 ((na : Int) + nb + 9) = na + nb + 9 := by unfold wrap64; omega
  have T1 := calls_total (W.alloc (.cells #[.int .i64 400000, .int .i64 600000] 3)) (some ⟨W.heap.size, 0, none⟩) 2 2 [400000, 600000] rfl (by decide) (C_of_iv (by decide) (by
    intro j u hj
    match j, hj with
    | 0, hj => simp [iv] at hj; subst hj; simp [Addr.add]
    | 1, hj => simp [iv] at hj; subst hj; simp [Addr.add])) (by decide)
  have ht1 : totL [400000, 600000] = (1000000, 0) := by decide
  rw [ht1] at T1
  have hmk : ∀ w : World, (Instr.makeSlice 22 (.int .i64 0) (.int .i64 ((na : Int) + nb + 9))).run Try.prog w = .ok (.slice (some ⟨w.heap.size, 0, none⟩) 0 (na + nb + 9)) (w.alloc (.cells (Array.replicate (na + nb + 9) (.int .i64 0)) 3)) := by
    intro w
    have := run_make (P := Try.prog) w 22 3 i0 _ Try.underlying22 hi hz0 .i64 .i64 0 ((na + nb + 9 : Nat) : Int) (by omega) (by omega) (by rw [hz2]; omega) (by omega)
    have e1 : madeCells (Value.int .i64 0).cells ((na + nb + 9) * i0.size) = Array.replicate (na + nb + 9) (.int .i64 0) := by
      rw [hz1, Nat.mul_one]
      apply Array.ext'
      rw [Array.toList_replicate]
      exact toList_madeCells_one _ _
    have e2 : ((na + nb + 9 : Nat) : Int) = (na : Int) + nb + 9 := by omega
    rw [Int.toNat_natCast, e1, e2] at this
    simpa using this
  go_enter Try.func3, Try.ntmps3
  have S1 := True.intro; have S2 := True.intro; have S3 := True.intro; have S4 := True.intro; have S5 := True.intro; have S6 := True.intro; have S7 := True.intro
  obtain ⟨x, hx⟩ : ∃ x, (totL la).1 = x := ⟨_, rfl⟩
  obtain ⟨f, hf⟩ : ∃ x, (totL la).2 = x := ⟨_, rfl⟩
  obtain ⟨y, hy⟩ : ∃ x, (totL lb).1 = x := ⟨_, rfl⟩
  obtain ⟨g, hg⟩ : ∃ x, (totL lb).2 = x := ⟨_, rfl⟩
  obtain ⟨z, hz⟩ : ∃ x, (totL (la ++ lb)).1 = x := ⟨_, rfl⟩
  obtain ⟨h, hh⟩ : ∃ x, (totL (la ++ lb)).2 = x := ⟨_, rfl⟩
  have X := Aside0.mk hx; have F := Aside0.mk hf; have Y := Aside0.mk hy; have G := Aside0.mk hg; have Z := Aside0.mk hz; have H := Aside0.mk hh
  clear hx hf hy hg hz hh
  have mx : na ≤ maxLen := by unfold maxLen; omega
  have mx2 : nb ≤ maxLen := by unfold maxLen; omega
  go_wp2_with (first
    | (go_at_call 4; refine T1.mono ?_; clear T1; rintro e w1 ⟨rfl, q1, hq1⟩; have A1 := Aside0.mk (show Below W.heap.size W w1 from by rw [hq1]; exact below_drewN ((Below.refl _ W).alloc (Nat.le_refl _) _) q1); clear hq1)
    | (at_builtin; clear S1; refine append_room _ rfl _ _ 22 rfl 3 i0 Try.underlying22 hi hz1 w1.heap.size 0 (na + nb + 9) (Array.replicate (na + nb + 9) (.int .i64 0)) rfl (heap_alloc_new w1 _) (by simp) A0 la na ca LA.out rfl (Kd.C_below HA.out (A1.out.alloc A1.out.size _)) hna (by omega) ?_; intro w3 h3 g3 z3; have H3 := Aside0.mk h3; have Z3 := Aside0.mk (show w3.heap.size = w1.heap.size + 1 from by rw [z3]; simp); have A3 := Aside0.mk (show Below W.heap.size W w3 from (A1.out.alloc A1.out.size _).grown g3 (by have := A1.out.size; simp; omega) (fun k e => by cases e; exact A1.out.size)); clear h3 g3 z3)
    | (at_builtin; clear S2; refine append_room _ rfl _ _ 22 rfl 3 i0 Try.underlying22 hi hz1 w1.heap.size na (na + nb + 9) _ rfl H3.out (by simp [iv, LA.out]; omega) B0 lb nb cb LB.out rfl (Kd.C_below HB.out A3.out) hnb (by omega) ?_; intro w4 h4 g4 z4; have H4 := Aside0.mk (show w4.heap[w1.heap.size]? = some (.cells (allC la lb) 3 (0, 0)) from by rw [h4, all_cells la lb na nb LA.out LB.out]); have Z4 := Aside0.mk (show w4.heap.size = w1.heap.size + 1 from by rw [z4, Z3.out]); have A4 := Aside0.mk (show Below W.heap.size W w4 from A3.out.grown g4 A3.out.size (fun k e => by cases e; exact A1.out.size)); clear h4 g4 z4)
    | (at_builtin; clear S3; refine append_own_any _ rfl _ _ 22 rfl W.heap.size 3 i0 (.int .i64 0) Try.underlying22 hi hz0 hz1 hz2 rfl _ 0 [] rfl (World.ownsRow_made w4 #[] 0 A4.out.size (Nat.zero_le _) (by simp)) A0 la na ca LA.out rfl (Kd.C_below HA.out (A4.out.alloc A4.out.size _)) hna (by simpa using mx) (by omega) (by have := A4.out.size; simp; omega) ?_; intro v5 w5 o5 g5; obtain ⟨A5, c5, rfl, hc5, hC5, hb5, hB5, hH5⟩ := own_step A4.out H4.out LA.out (by omega) o5 g5; have C5 := Aside0.mk hC5; have A5' := Aside0.mk hB5; have H5 := Aside0.mk hH5; clear o5 g5 hC5 hb5 hB5 hH5)
    | (at_builtin; clear S4; refine append_own_any _ rfl _ _ 22 rfl W.heap.size 3 i0 (.int .i64 0) Try.underlying22 hi hz0 hz1 hz2 rfl _ 0 [] rfl (World.ownsRow_made w5 #[] 0 A5'.out.size (Nat.zero_le _) (by simp)) B0 lb nb cb LB.out rfl (Kd.C_below HB.out (A5'.out.alloc A5'.out.size _)) hnb (by simpa using mx2) (by omega) (by have := A5'.out.size; simp; omega) ?_; intro v7 w7 o7 g7; obtain ⟨A7, c7, rfl, hc7, hC7, hb7, hB7, hH7⟩ := own_step A5'.out H5.out LB.out (by omega) o7 g7; have D7 := Aside0.mk hC7; have C7 := Aside0.mk (Kd.C_below C5.out hb7); have A7' := Aside0.mk hB7; have H7 := Aside0.mk hH7; clear o7 g7 hC7 hb7 hB7 hH7)
    | (go_at_call 4; clear S5; refine (calls_total _ A5 na c5 la LA.out (by rw [LA.out]; omega) C7.out hc5).mono ?_; rintro e w8 ⟨rfl, q8, hq8⟩; have E8 := Aside0.mk hq8; clear hq8; rw [X.out, F.out])
    | (go_at_call 4; clear S6; refine (calls_total _ A7 nb c7 lb LB.out (by rw [LB.out]; omega) (by rw [E8.out]; exact D7.out) hc7).mono ?_; rintro e w9 ⟨rfl, q9, hq9⟩; have E9 := Aside0.mk (show w9 = w7.drewN (q8 + q9) from by rw [hq9, E8.out]; exact World.drewN_drewN _ _ _); clear hq9; rw [Y.out, G.out])
    | (go_at_call 4; clear S7; refine (calls_total _ (some ⟨w1.heap.size, 0, none⟩) (na + nb) (na + nb + 9) (la ++ lb) (by rw [List.length_append, LA.out, LB.out]) (by rw [List.length_append, LA.out, LB.out]; omega) (by rw [E9.out]; exact all_C LA.out LB.out (by omega) H7.out) (by omega)).mono ?_; rintro e w10 ⟨rfl, q10, hq10⟩; have E10 := Aside0.mk (show w10 = w7.drewN (q8 + q9 + q10) from by rw [hq10, E9.out]; exact World.drewN_drewN _ _ _); clear hq10; rw [Z.out, H.out]))
  have HW := Aside0.mk (show w10.heap[w1.heap.size]? = some (.cells (allC la lb) 3 (0, 0)) from by rw [E10.out]; exact H7.out)
  have HC := Aside0.mk (show Kd.C (Kd.int .i64) w10 A5 na la from by rw [E10.out]; exact C7.out)
  have HD := Aside0.mk (show Kd.C (Kd.int .i64) w10 A7 nb lb from by rw [E10.out]; exact D7.out)
  have HL := Aside0.mk (show Below W.heap.size W w10 from by rw [E10.out]; exact below_drewN A7'.out _)
  have PA := Aside0.mk (Kd.C_below HA.out HL.out)
  have PB := Aside0.mk (Kd.C_below HB.out HL.out)
  clear hw1 hw2 hmk mx mx2 ht1
  go_loopw [17] (fun v17 wc => ∃ i q : Nat, v17 = .int .i64 i ∧ i ≤ na + nb + 9 ∧ wc = w10.drewN q) (fun v17 _ => na + nb + 9 - toN v17)
  case atStart => exact ⟨0, 0, rfl, Nat.zero_le _, rfl⟩
  case round =>
    obtain ⟨i, q, rfl, hi9, rfl⟩ := hrel
    by_cases hlt : i < na + nb + 9
    · by_cases h1 : i < na
      · have c0 : (i : Int) < (na : Int) + nb + 9 := by omega
        have c1 : (i : Int) < (na : Int) := by omega
        have d2 : (na ≤ i) = False := eq_false (by omega)
        have d3 : (na + nb ≤ i) = False := eq_false (by omega)
        have d4 : ((na : Int) ≤ (i : Int)) = False := eq_false (by omega)
        have d5 : ((na : Int) + nb ≤ (i : Int)) = False := eq_false (by omega)
        have c3 : (0 : Int) ≤ (i : Int) := by omega
        obtain ⟨x0, hx0⟩ : ∃ x0, la[i]? = some x0 := ⟨_, List.getElem?_eq_getElem (by rw [LA.out]; exact h1)⟩
        have hrd : rd la (i : Int) = x0 := by unfold rd; rw [Int.toNat_natCast, List.getD_eq_getElem?_getD, hx0]; rfl
        have sp := all_at la lb HW.out i x0 (by rw [List.append_assoc, List.getElem?_append_left (by rw [LA.out]; exact h1)]; exact hx0)
        obtain ⟨adA, eA, hA1⟩ := Kd.at_int PA.out (i : Int) (by omega) (by omega)
        obtain ⟨ad5, e5, hA5⟩ := Kd.at_int HC.out (i : Int) (by omega) (by omega)
        cases eA
        cases e5
        rw [Int.toNat_natCast, hrd] at hA1 hA5
        have wi : wrap64 ((i : Int) + 1) = ((i + 1 : Nat) : Int) := wrap_succ hi9 sa sb
        as_aux_lemma =>
          go_wp2
          simp only [List.append_eq, List.cons_append, List.nil_append]
          go_quiet (fail)
          go_wp2
          go_roundw
          case rel => exact ⟨i + 1, _, by first | rw [wi] | simp, Nat.succ_le_of_lt hlt, rfl⟩
          case measure => first | exact meas hlt | (rw [wi]; exact meas hlt)
      · by_cases h2 : i < na + nb
        · obtain ⟨j, hj⟩ : ∃ j, i = na + j := ⟨i - na, by omega⟩
          have hji : (i : Int) - na = (j : Int) := by omega
          have hjb : j < nb := by omega
          have c0 : (i : Int) < (na : Int) + nb + 9 := by omega
          have c1 : (i : Int) < (na : Int) + nb := by omega
          have c3 : (0 : Int) ≤ (i : Int) := by omega
          have c4 : (0 : Int) ≤ (j : Int) := by omega
          have c5' : (j : Int) < (nb : Int) := by omega
          have d1 : (i < na) = False := eq_false (by omega)
          have d2 : (na ≤ i) = True := eq_true (by omega)
          have d3 : (na + nb ≤ i) = False := eq_false (by omega)
          have d4 : ((na : Int) ≤ (i : Int)) = True := eq_true (by omega)
          have d5 : ((na : Int) + nb ≤ (i : Int)) = False := eq_false (by omega)
          have d6 : ((i : Int) < (na : Int)) = False := eq_false (by omega)
          obtain ⟨x0, hx0⟩ : ∃ x0, lb[j]? = some x0 := ⟨_, List.getElem?_eq_getElem (by rw [LB.out]; exact hjb)⟩
          have hrd : rd lb (j : Int) = x0 := by unfold rd; rw [Int.toNat_natCast, List.getD_eq_getElem?_getD, hx0]; rfl
          have sp := all_at la lb HW.out i x0 (by
            rw [List.getElem?_append_left (by rw [List.length_append, LA.out, LB.out]; exact h2), List.getElem?_append_right (by rw [LA.out]; omega), LA.out, show i - na = j from by omega]; exact hx0)
          obtain ⟨adB, eB, hB1⟩ := Kd.at_int PB.out (j : Int) (by omega) (by omega)
          obtain ⟨ad7, e7, hB7⟩ := Kd.at_int HD.out (j : Int) (by omega) (by omega)
          cases eB
          cases e7
          rw [Int.toNat_natCast, hrd] at hB1 hB7
          clear hj
          have wi : wrap64 ((i : Int) + 1) = ((i + 1 : Nat) : Int) := wrap_succ hi9 sa sb
          have wj : wrap64 ((i : Int) - na) = (j : Int) := wrap_back hji hi9 sa sb
          have wj2 : wrap64 (j : Int) = (j : Int) := wrap_small hjb sb
          as_aux_lemma =>
            go_wp2
            simp only [List.append_eq, List.cons_append, List.nil_append]
            go_quiet (fail)
            go_wp2
            go_roundw
            case rel => exact ⟨i + 1, _, by first | rw [wi] | simp, Nat.succ_le_of_lt hlt, rfl⟩
            case measure => first | exact meas hlt | (rw [wi]; exact meas hlt)

        · have c0 : (i : Int) < (na : Int) + nb + 9 := by omega
          have c3 : (0 : Int) ≤ (i : Int) := by omega
          have d1 : (i < na) = False := eq_false (by omega)
          have d2 : (na ≤ i) = True := eq_true (by omega)
          have d3 : (na + nb ≤ i) = True := eq_true (by omega)
          have d4 : ((na : Int) ≤ (i : Int)) = True := eq_true (by omega)
          have d5 : ((na : Int) + nb ≤ (i : Int)) = True := eq_true (by omega)
          have d6 : ((i : Int) < (na : Int)) = False := eq_false (by omega)
          have d7 : (i < na + nb) = False := eq_false (by omega)
          have d8 : ((i : Int) < (na : Int) + nb) = False := eq_false (by omega)
          have sp := all_at la lb HW.out i 0 (by
            rw [List.getElem?_append_right (by rw [List.length_append, LA.out, LB.out]; omega), List.getElem?_replicate, if_pos (by rw [List.length_append, LA.out, LB.out]; omega)])
          have wi : wrap64 ((i : Int) + 1) = ((i + 1 : Nat) : Int) := wrap_succ hi9 sa sb
          as_aux_lemma =>
            go_wp2
            simp only [List.append_eq, List.cons_append, List.nil_append]
            go_quiet (fail)
            go_wp2
            go_roundw
            case rel => exact ⟨i + 1, _, by first | rw [wi] | simp, Nat.succ_le_of_lt hlt, rfl⟩
            case measure => first | exact meas hlt | (rw [wi]; exact meas hlt)

    · obtain rfl : i = na + nb + 9 := by omega
      clear HC HD PA PB C5 C7 D7 E8 E9 E10 A3 A4 H3 H4 Z3 Z4 H5 H7 A5' A7'
      have c0 : ((na : Int) + nb + 9 < (na : Int) + nb + 9) = False := eq_false (by omega)
      go_wp2
      go_loopw [18] (fun v18 wc => ∃ (i : Nat) (cur : Array Value), v18 = .int .i64 i ∧ i ≤ na + nb ∧ Aside0 (wc.heap[w1.heap.size]? = some (.cells cur 3 (0, 0))) ∧ Aside0 (cur.size = na + nb + 9) ∧ Aside0 (∀ j, j < i → cur[j]? = some (.int .i64 1)) ∧ Aside0 (Below W.heap.size W wc)) (fun v18 _ => na + nb - toN v18)
      case atStart => exact ⟨0, allC la lb, rfl, Nat.zero_le _, ⟨HW.out⟩, ⟨all_size LA.out LB.out⟩, ⟨fun j hj => absurd hj (Nat.not_lt_zero _)⟩, ⟨below_drewN HL.out _⟩⟩
      case round =>
        obtain ⟨i, cur, rfl, hin, HB2, HS2, HO2, HL2⟩ := hrel
        by_cases hlt : i < na + nb
        · have c1 : (i : Int) < (na : Int) + nb := by omega
          have c3 : (0 : Int) ≤ (i : Int) := by omega
          obtain ⟨u, hu⟩ : ∃ u, cur[i]? = some u := ⟨_, Array.getElem?_eq_getElem (by rw [HS2.out]; omega)⟩
          have sp := cell_of HB2.out hu
          have fz := frz_of HB2.out i
          have wi : wrap64 ((i : Int) + 1) = ((i + 1 : Nat) : Int) := wrap_succ (by omega) sa sb
          as_aux_lemma =>
            go_wp2
            go_roundw
            case rel => exact ⟨i + 1, cur.setIfInBounds i (.int .i64 1), by first | rw [wi] | simp, Nat.succ_le_of_lt hlt, ⟨blk_set HB2.out i _⟩, ⟨by rw [Array.size_setIfInBounds]; exact HS2.out⟩, ⟨ones_step HS2.out (by omega) HO2.out⟩, ⟨HL2.out.setCell A1.out.size _⟩⟩
            case measure => first | exact meas hlt | (rw [wi]; exact meas hlt)
        · obtain rfl : i = na + nb := by omega
          have c1 : ((na : Int) + nb < (na : Int) + nb) = False := eq_false (by omega)
          have CT := ones_C (w := wr) (by omega) HB2.out HO2.out
          have T5 := calls_total wr (some ⟨w1.heap.size, 0, none⟩) (na + nb) (na + nb + 9) (List.replicate (na + nb) 1) List.length_replicate (by rw [List.length_replicate]; omega) CT (by omega)
          obtain ⟨t, ht⟩ : ∃ t, (totL (List.replicate (na + nb) 1)).1 = t := ⟨_, rfl⟩
          obtain ⟨e, he⟩ : ∃ e, (totL (List.replicate (na + nb) 1)).2 = e := ⟨_, rfl⟩
          have hbig : ¬ (na : Int) + nb ≤ 1000000 ∨ (na : Int) + nb ≤ 1000000 ∧ t = (na : Int) + nb ∧ e = 0 := by
            by_cases hs : (na : Int) + nb ≤ 1000000
            · refine .inr ⟨hs, ?_⟩
              rw [← ht, ← he, ones_tot (by omega)]
              exact ⟨by simp, rfl⟩
            · exact .inl hs
          have TC := tot_cases X.out F.out Y.out G.out Z.out H.out
          rw [ht, he] at T5
          clear ht he CT
          clear X F Y G Z H HW HL
          rcases hbig with hb | ⟨hb, rfl, rfl⟩ <;> rcases TC with ⟨rfl, rfl, rfl⟩ | ⟨rfl, rfl, rfl, rfl⟩ | ⟨rfl, rfl, rfl, rfl⟩ | ⟨rfl, rfl, rfl, rfl⟩ | ⟨rfl, rfl, rfl, rfl⟩ | ⟨rfl, rfl, rfl, rfl⟩ | ⟨rfl, rfl, rfl, rfl, hxy⟩ | ⟨rfl, rfl, rfl, rfl, hw, hxy⟩
          all_goals
            as_aux_lemma =>
              go_wp2_with (first
                | (go_at_call 4; refine T5.mono ?_; clear T5; rintro _ w6 ⟨rfl, q6, hq6⟩; have B6 : Below W.heap.size W w6 := (by rw [hq6]; exact below_drewN HL2.out _); clear hq6))
              go_ret; exact ⟨by first | rfl | (simp; done) | (simp [*]; done), B6⟩
end Go.Proofs.Ytceojhapfblafaa.G
