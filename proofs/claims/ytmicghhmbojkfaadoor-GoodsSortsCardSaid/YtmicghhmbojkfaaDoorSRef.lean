/- What the reference's Sort answers: a row that rises strictly, of the texts of the list. -/
import Derived.Test.YtmicghhmbojkfaaDoorSSs
namespace Go.Proofs.YtmicghhmbojkfaaDoor.SP
open Go.RowKit Go.Proofs.YtmicghhmbojkfaaDoor.S Go.Proofs.YtmicghhmbojkfaaDoor.Ord Go.Proofs.YtmicghhmbojkfaaDoorW.PrintWords Go.Proofs.YtmicghhmbojkfaaDoorW.PrintLast
theorem rdOf_drop {a : List ByteArray} {i : Nat} {x : ByteArray} {s : List ByteArray} (h : a.drop i = x :: s) : i < a.length ∧ rdOf ByteArray.empty a (i : Int) = x ∧ a.drop (i + 1) = s := by
  have hi : i < a.length := by
    apply Nat.lt_of_not_le
    intro hn
    rw [List.drop_eq_nil_of_le hn] at h; cases h
  rw [List.drop_eq_getElem_cons hi] at h
  injection h with h1 h2
  refine ⟨hi, ?_, h2⟩
  unfold rdOf
  rw [Int.toNat_natCast, List.getD_eq_getElem?_getD, List.getElem?_eq_getElem hi]
  exact h1
theorem drop_len {a : List ByteArray} {i : Nat} {s : List ByteArray} (h : a.drop i = s) (hi : i ≤ a.length) : a.length = i + s.length := by
  rw [← h, List.length_drop]; omega
theorem up1 (i n : Nat) (h : i + n ≤ 17592186044416) : wrap64 ((i : Int) + 1) = ((i + 1 : Nat) : Int) := by unfold wrap64; omega
theorem merge_ev (a b : List ByteArray) (ha : a.length ≤ 8796093022208) (hb : b.length ≤ 8796093022208) (hao : okB a) (hbo : okB b) : ∀ (n i j : Nat) (out s t : List ByteArray),
    a.drop i = s → b.drop j = t → i ≤ a.length → j ≤ b.length → s.length + t.length ≤ n → SS s → SS t → out.length + s.length + t.length ≤ 8796093022208 →
    ∃ r, Ev (fun k => barrowref02_Sort.l0 k a b out i j) (out ++ r) ∧ SS r ∧ (∀ z, z ∈ r ↔ z ∈ s ∨ z ∈ t) ∧ r.length ≤ s.length + t.length := by
  intro n
  induction n with
  | zero =>
    intro i j out s t hs ht hi hj hn _ _ _
    have la := drop_len hs hi
    have lb := drop_len ht hj
    have es : s = [] := List.eq_nil_of_length_eq_zero (by omega)
    have et : t = [] := List.eq_nil_of_length_eq_zero (by omega)
    subst es et
    simp only [List.length_nil] at la lb
    refine ⟨[], ?_, List.Pairwise.nil, by simp, by simp⟩
    rw [List.append_nil]
    refine Ev.step (f := fun k => barrowref02_Sort.j1 k a b out i j false) (fun k => ?_) (Ev.step (f := fun _ => some out) (fun k => ?_) (Ev.now out))
    · rw [barrowref02_Sort.l0, if_neg (by omega), decide_eq_false (by omega)]
    · rw [barrowref02_Sort.j1, if_neg (by decide)]
  | succ n ih =>
    intro i j out s t hs ht hi hj hn hss hst hout
    have la := drop_len hs hi
    have lb := drop_len ht hj
    -- one step to 'j1' with the test true
    have st : ∀ {q}, (s ≠ [] ∨ t ≠ []) → Ev (fun k => barrowref02_Sort.j1 k a b out i j true) q → Ev (fun k => barrowref02_Sort.l0 k a b out i j) q := by
      intro q hne hq
      refine Ev.step (f := fun k => barrowref02_Sort.j1 k a b out i j true) (fun k => ?_) hq
      rw [barrowref02_Sort.l0]
      by_cases h1 : (i : Int) < (a.length : Int)
      · rw [if_pos h1]
      · rw [if_neg h1]
        have hs0 : s = [] := List.eq_nil_of_length_eq_zero (by omega)
        have ht0 : t.length ≠ 0 := by
          intro e
          exact (hne.resolve_left (fun h => h hs0)) (List.eq_nil_of_length_eq_zero e)
        rw [decide_eq_true (by omega)]
    have wi := up1 i (s.length + t.length)
    have wj := up1 j (s.length + t.length)
    -- the text of b is taken
    have takeB : ∀ (y : ByteArray) (t' : List ByteArray), t = y :: t' → ∃ r, Ev (fun k => barrowref02_Sort.l0 k a b (out ++ [y]) i ((j + 1 : Nat) : Int)) (out ++ y :: r) ∧ SS r ∧ (∀ z, z ∈ r ↔ z ∈ s ∨ z ∈ t') ∧ r.length ≤ s.length + t'.length := by
      intro y t' e
      subst e
      obtain ⟨hj', _, hd⟩ := rdOf_drop ht
      obtain ⟨r, h1, h2, h3, h4⟩ := ih i (j + 1) (out ++ [y]) s t' hs hd hi (by omega) (by simp only [List.length_cons] at hn; omega) hss (List.pairwise_cons.1 hst).2 (by simp only [List.length_cons, List.length_append, List.length_nil] at hout ⊢; omega)
      rw [List.append_assoc, List.singleton_append] at h1
      exact ⟨r, h1, h2, h3, h4⟩
    have takeA : ∀ (x : ByteArray) (s' : List ByteArray), s = x :: s' → ∃ r, Ev (fun k => barrowref02_Sort.l0 k a b (out ++ [x]) ((i + 1 : Nat) : Int) j) (out ++ x :: r) ∧ SS r ∧ (∀ z, z ∈ r ↔ z ∈ s' ∨ z ∈ t) ∧ r.length ≤ s'.length + t.length := by
      intro x s' e
      subst e
      obtain ⟨hi', _, hd⟩ := rdOf_drop hs
      obtain ⟨r, h1, h2, h3, h4⟩ := ih (i + 1) j (out ++ [x]) s' t hd ht (by omega) hj (by simp only [List.length_cons] at hn; omega) (List.pairwise_cons.1 hss).2 hst (by simp only [List.length_cons, List.length_append, List.length_nil] at hout ⊢; omega)
      rw [List.append_assoc, List.singleton_append] at h1
      exact ⟨r, h1, h2, h3, h4⟩
    have takeAB : ∀ (x y : ByteArray) (s' t' : List ByteArray), s = x :: s' → t = y :: t' → ∃ r, Ev (fun k => barrowref02_Sort.l0 k a b (out ++ [x]) ((i + 1 : Nat) : Int) ((j + 1 : Nat) : Int)) (out ++ x :: r) ∧ SS r ∧ (∀ z, z ∈ r ↔ z ∈ s' ∨ z ∈ t') ∧ r.length ≤ s'.length + t'.length := by
      intro x y s' t' e e'
      subst e e'
      obtain ⟨hi', _, hd⟩ := rdOf_drop hs
      obtain ⟨hj', _, hd'⟩ := rdOf_drop ht
      obtain ⟨r, h1, h2, h3, h4⟩ := ih (i + 1) (j + 1) (out ++ [x]) s' t' hd hd' (by omega) (by omega) (by simp only [List.length_cons] at hn; omega) (List.pairwise_cons.1 hss).2 (List.pairwise_cons.1 hst).2 (by simp only [List.length_cons, List.length_append, List.length_nil] at hout ⊢; omega)
      rw [List.append_assoc, List.singleton_append] at h1
      exact ⟨r, h1, h2, h3, h4⟩
    cases hsc : s with
    | nil =>
      subst hsc
      cases htc : t with
      | nil =>
        subst htc
        obtain ⟨r, h1, h2, h3, h4⟩ := ih i j out [] [] hs ht hi hj (by simp) hss hst hout
        exact ⟨r, h1, h2, h3, h4⟩
      | cons y t' =>
        obtain ⟨hj', hy, _⟩ := rdOf_drop (ht.trans htc)
        obtain ⟨r, h1, h2, h3, h4⟩ := takeB y t' htc
        have hyl := (List.pairwise_cons.1 (htc ▸ hst)).1
        refine ⟨y :: r, st (.inr (by rw [htc]; simp)) (Ev.step (f := fun k => barrowref02_Sort.l0 k a b (out ++ [y]) i ((j + 1 : Nat) : Int)) (fun k => ?_) h1), List.pairwise_cons.2 ⟨fun z hz => hyl z (((h3 z).1 hz).resolve_left (by simp)), h2⟩, fun z => ?_, ?_⟩
        · rw [htc] at hout lb
          simp only [List.length_nil, List.length_cons] at hout la lb
          rw [barrowref02_Sort.j1, if_pos rfl, if_pos (by omega), if_pos (by omega), if_pos (by omega), if_pos (by omega), hy, up1 j 0 (by omega)]
        · rw [List.mem_cons, List.mem_cons, h3 z]; simp
        · simp only [List.length_cons, List.length_nil] at h4 ⊢; omega
    | cons x s' =>
      obtain ⟨hi', hx, _⟩ := rdOf_drop (hs.trans hsc)
      have hxl := (List.pairwise_cons.1 (hsc ▸ hss)).1
      cases htc : t with
      | nil =>
        obtain ⟨r, h1, h2, h3, h4⟩ := takeA x s' hsc
        refine ⟨x :: r, st (.inl (by rw [hsc]; simp)) (Ev.step (f := fun k => barrowref02_Sort.l0 k a b (out ++ [x]) ((i + 1 : Nat) : Int) j) (fun k => ?_) h1), List.pairwise_cons.2 ⟨fun z hz => hxl z (((h3 z).1 hz).resolve_right (by rw [htc]; simp)), h2⟩, fun z => ?_, ?_⟩
        · rw [hsc, htc] at hout
          rw [hsc] at la; rw [htc] at lb
          simp only [List.length_nil, List.length_cons] at hout la lb
          rw [barrowref02_Sort.j1, if_pos rfl, if_neg (by omega), if_pos (by omega), if_pos (by omega), if_pos (by omega), if_pos (by omega), hx, up1 i 0 (by omega)]
        · rw [List.mem_cons, List.mem_cons, h3 z, htc]; simp
        · rw [htc] at h4; simp only [List.length_cons, List.length_nil] at h4 ⊢; omega
      | cons y t' =>
        obtain ⟨hj', hy, _⟩ := rdOf_drop (ht.trans htc)
        have hyl := (List.pairwise_cons.1 (htc ▸ hst)).1
        have hxm : x ∈ a := List.mem_of_mem_drop (by rw [hs.trans hsc]; exact List.mem_cons_self)
        have hym : y ∈ b := List.mem_of_mem_drop (by rw [ht.trans htc]; exact List.mem_cons_self)
        have hcmp : Ev (fun k => barrowref02_Compare.f k x y) (nat2 x y) := ⟨_, fun k hk => rcompare_eq x y (hao x hxm) (hbo y hym) k hk⟩
        have hls : out.length < 8796093022208 := by rw [hsc] at hout; simp only [List.length_cons] at hout; omega
        rw [hsc] at la; rw [htc] at lb
        simp only [List.length_cons] at la lb
        -- the step, with the comparison
        have step : ∀ {q}, Ev (fun k => (barrowref02_Compare.f k x y).bind fun t133 => (if t133 ≤ 0 then ((some (out ++ [x] : List ByteArray)).bind fun y135 => (if t133 = 0 then (barrowref02_Sort.l0 k a b y135 ((i + 1 : Nat) : Int) ((j + 1 : Nat) : Int)) else (barrowref02_Sort.l0 k a b y135 ((i + 1 : Nat) : Int) j))) else (barrowref02_Sort.l0 k a b (out ++ [y]) i ((j + 1 : Nat) : Int)))) q → Ev (fun k => barrowref02_Sort.l0 k a b out i j) q := by
          intro q hq
          refine st (.inl (by rw [hsc]; simp)) (Ev.step (fun k => ?_) hq)
          rw [barrowref02_Sort.j1, if_pos rfl, if_neg (by omega), if_neg (by omega), if_pos (by omega), if_pos (by omega), if_pos (by omega), if_pos (by omega), hx, hy, up1 i 0 (by omega), up1 j 0 (by omega)]
          simp only [if_pos hls]
        by_cases c0 : nat2 x y = 0
        · obtain rfl := nat2_zero.1 c0
          obtain ⟨r, h1, h2, h3, h4⟩ := takeAB x x s' t' hsc htc
          refine ⟨x :: r, step (Ev.bind hcmp (Ev.congr (fun k => by rw [if_pos (by omega), Option.bind_some, if_pos c0]) h1)), List.pairwise_cons.2 ⟨fun z hz => ((h3 z).1 hz).elim (hxl z) (hyl z), h2⟩, fun z => ?_, ?_⟩
          · rw [List.mem_cons, List.mem_cons, List.mem_cons, h3 z]
            constructor
            · rintro (h | h | h) <;> simp [h]
            · rintro ((h | h) | (h | h)) <;> simp [h]
          · simp only [List.length_cons] at h4 ⊢; omega
        · by_cases c1 : nat2 x y ≤ 0
          · have c2 : nat2 x y = -1 := by have := nat2_range x y; omega
            obtain ⟨r, h1, h2, h3, h4⟩ := takeA x s' hsc
            refine ⟨x :: r, step (Ev.bind hcmp (Ev.congr (fun k => by rw [if_pos c1, Option.bind_some, if_neg c0]) h1)), List.pairwise_cons.2 ⟨fun z hz => ((h3 z).1 hz).elim (hxl z) (fun h => ?_), h2⟩, fun z => ?_, ?_⟩
            · rw [htc] at h
              rcases List.mem_cons.1 h with rfl | h
              · exact c2
              · exact nat2_trans c2 (hyl z h)
            · rw [List.mem_cons, List.mem_cons, h3 z, htc]
              constructor
              · rintro (h | h | h)
                · exact .inl (.inl h)
                · exact .inl (.inr h)
                · exact .inr h
              · rintro ((h | h) | h)
                · exact .inl h
                · exact .inr (.inl h)
                · exact .inr (.inr h)
            · rw [htc] at h4; simp only [List.length_cons] at h4 ⊢; omega
          · have c2 : nat2 y x = -1 := by have := nat2_range x y; have := nat2_anti x y; omega
            obtain ⟨r, h1, h2, h3, h4⟩ := takeB y t' htc
            refine ⟨y :: r, step (Ev.bind hcmp (Ev.congr (fun k => by rw [if_neg c1]) h1)), List.pairwise_cons.2 ⟨fun z hz => ((h3 z).1 hz).elim (fun h => ?_) (hyl z), h2⟩, fun z => ?_, ?_⟩
            · rw [hsc] at h
              rcases List.mem_cons.1 h with rfl | h
              · exact c2
              · exact nat2_trans c2 (hxl z h)
            · rw [List.mem_cons, List.mem_cons, h3 z, hsc]
              constructor
              · rintro (h | h | h)
                · exact .inr (List.mem_cons.2 (.inl h))
                · exact .inl (List.mem_cons.1 h)
                · exact .inr (List.mem_cons_of_mem _ h)
              · rintro (h | h)
                · exact .inr (.inl (List.mem_cons.2 h))
                · exact (List.mem_cons.1 h).elim .inl (fun h => .inr (.inr h))
            · rw [hsc] at h4; simp only [List.length_cons] at h4 ⊢; omega
theorem ref_sort : ∀ (n : Nat) (l : List ByteArray), l.length ≤ n → okB l → l.length ≤ 8796093022208 → ∃ r, Ev (fun k => barrowref02_Sort.f k l) r ∧ SS r ∧ (∀ z, z ∈ r ↔ z ∈ l) ∧ r.length ≤ l.length := by
  intro n
  induction n with
  | zero =>
    intro l hn _ _
    obtain rfl : l = [] := List.eq_nil_of_length_eq_zero (by omega)
    exact ⟨[], Ev.step (f := fun _ => some []) (fun k => by rw [barrowref02_Sort.f, if_pos (show (([] : List ByteArray).length : Int) = 0 from rfl)]) (Ev.now []), List.Pairwise.nil, by simp, by simp⟩
  | succ n ih =>
    intro l hn hok hl
    by_cases h0 : l.length = 0
    · obtain rfl : l = [] := List.eq_nil_of_length_eq_zero h0
      exact ⟨[], Ev.step (f := fun _ => some []) (fun k => by rw [barrowref02_Sort.f, if_pos (show (([] : List ByteArray).length : Int) = 0 from rfl)]) (Ev.now []), List.Pairwise.nil, by simp, by simp⟩
    · by_cases h1 : l.length = 1
      · obtain ⟨x, rfl⟩ : ∃ x, l = [x] := List.length_eq_one_iff.1 h1
        exact ⟨[x], Ev.step (f := fun _ => some [x]) (fun k => by rw [barrowref02_Sort.f, if_neg (show ¬ ((([x] : List ByteArray).length : Int) = 0) from by simp), if_pos (show (([x] : List ByteArray).length : Int) = 1 from by simp), if_pos (show 0 < (([x] : List ByteArray).length : Int) from by simp)]; rfl) (Ev.now [x]), by simp [SS], by simp, by simp⟩
      · have hw : wrap64 ((l.length : Int) / 2) = ((l.length / 2 : Nat) : Int) := by unfold wrap64; omega
        have okt : okB (l.take (l.length / 2)) := fun x hx => hok x (List.mem_of_mem_take hx)
        have okd : okB (l.drop (l.length / 2)) := fun x hx => hok x (List.mem_of_mem_drop hx)
        have lt : (l.take (l.length / 2)).length = l.length / 2 := by rw [List.length_take]; omega
        have ld : (l.drop (l.length / 2)).length = l.length - l.length / 2 := List.length_drop
        obtain ⟨ra, a1, a2, a3, a4⟩ := ih (l.take (l.length / 2)) (by clear hw; omega) okt (by clear hw; omega)
        obtain ⟨rb, b1, b2, b3, b4⟩ := ih (l.drop (l.length / 2)) (by clear hw; omega) okd (by clear hw; omega)
        obtain ⟨r, m1, m2, m3, m4⟩ := merge_ev ra rb (by clear hw; omega) (by clear hw; omega) (fun x hx => okt x ((a3 x).1 hx)) (fun x hx => okd x ((b3 x).1 hx)) (ra.length + rb.length) 0 0 [] ra rb rfl rfl (Nat.zero_le _) (Nat.zero_le _) (Nat.le_refl _) a2 b2 (by simp only [List.length_nil]; clear hw; omega)
        rw [List.nil_append] at m1
        refine ⟨r, Ev.step (f := fun k => (barrowref02_Sort.f k (l.take (l.length / 2))).bind fun t116 => (barrowref02_Sort.f k (l.drop (l.length / 2))).bind fun t120 => barrowref02_Sort.l0 k t116 t120 ([] : List ByteArray) 0 0) (fun k => ?_) (Ev.bind a1 (Ev.bind b1 m1)), m2, fun z => ?_, by clear hw; omega⟩
        · rw [barrowref02_Sort.f, if_neg (by clear hw; omega), if_neg (by clear hw; omega), hw, if_pos (by clear hw; omega), if_pos (by clear hw; omega), Int.toNat_natCast]
        · rw [m3 z, a3 z, b3 z, ← List.mem_append, List.take_append_drop]
end Go.Proofs.YtmicghhmbojkfaaDoor.SP
