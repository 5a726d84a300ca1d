/- The reference's marks and its sort. -/
import Derived.Test.YtcblhfnjcanliaaAl2
import Derived.Test.YtcblhfnjcanliaaGx1
import Derived.Test.YtcblhfnjcanliaaGx2
namespace Go.Proofs.Ytcblhfnjcanliaa.Pure
open Go.RowKit Go.Proofs.Ytcblhfnjcanliaa.G Go.Proofs.YtcblhfnjcanliaaW.PrintWords Go.Proofs.YtcblhfnjcanliaaW.PrintLast Go.Proofs.YtcblhfnjcanliaaW.PrintMore
set_option linter.unusedVariables false

def mk1 (w : Int) (r : S24) : List S40 := if okB r = true then [⟨(clipS r).f0, w, 1⟩, ⟨(clipS r).f1 + 1, w, -1⟩] else []
def mkRow (w : Int) (row : List S24) : List S40 := row.flatMap (mk1 w)
def mkAll : Int → List (List S24) → List S40
  | _, [] => []
  | w, r :: t => mkRow w r ++ mkAll (w + 1) t
theorem mk1_len (w : Int) (r : S24) : (mk1 w r).length ≤ 2 := by unfold mk1; split <;> simp
theorem mkRow_len (w : Int) (row : List S24) : (mkRow w row).length ≤ 2 * row.length := by
  induction row with
  | nil => simp [mkRow]
  | cons r t ih =>
    have := mk1_len w r
    unfold mkRow at *
    rw [List.flatMap_cons, List.length_append, List.length_cons]
    omega
theorem mkAll_len (L : List (List S24)) : ∀ w, (mkAll w L).length ≤ 2 * L.flatten.length := by
  induction L with
  | nil => intro w; simp [mkAll]
  | cons r t ih =>
    intro w
    have := ih (w + 1)
    have := mkRow_len w r
    simp only [mkAll, List.length_append, List.flatten_cons]
    omega

theorem marks_l1 (L : List (List S24)) (w : Nat) (hw : w < L.length) (row : List S24) (hrow : rd_L2 L (w : Int) = row) (hr : row.length ≤ 4194304) (R : List S40) (pre suf : List S24) (hp : row = pre ++ suf) : ∀ (acc : List S40), acc.length + 2 * suf.length ≤ 4194304 →
    Ev (fun k => barrowref01_marks.l0 k L (acc ++ mkRow (w : Int) suf) (wrap64 ((w : Int) + 1))) R → Ev (fun k => barrowref01_marks.l1 k L acc (w : Int) (pre.length : Int)) R := by
  induction suf generalizing pre with
  | nil =>
    intro acc _ hE
    refine Ev.step (f := fun k => barrowref01_marks.l0 k L (acc ++ mkRow (w : Int) []) (wrap64 ((w : Int) + 1))) (fun k => ?_) hE
    simp only [barrowref01_marks.l1]
    rw [if_pos (by omega), if_pos (by omega), hrow, if_neg (by rw [hp]; simp)]
    simp [mkRow]
  | cons r t ih =>
    intro acc hl hE
    have e1 : wrap64 ((pre.length : Int) + 1) = ((pre ++ [r]).length : Int) := by rw [w64_nat _ (by rw [hp] at hr; simp at hr; omega)]; simp
    have hlt : (pre.length : Int) < (row.length : Int) := by rw [hp]; simp; omega
    have hget : rd_T24 row (pre.length : Int) = r := by rw [hp]; exact rdT pre t r
    have hI := ih (pre ++ [r]) (by rw [hp]; simp)
    have em : mkRow (w : Int) (r :: t) = mk1 (w : Int) r ++ mkRow (w : Int) t := by unfold mkRow; rw [List.flatMap_cons]
    rw [em, ← List.append_assoc] at hE
    simp only [List.length_cons] at hl
    have hlen := mk1_len (w : Int) r
    have hJ : Ev (fun k => barrowref01_marks.l1 k L (acc ++ mk1 (w : Int) r) (w : Int) ((pre ++ [r]).length : Int)) R := hI _ (by rw [List.length_append]; omega) hE
    have key : Ev (fun k => barrowref01_marks.j2 k L acc (w : Int) (pre.length : Int) (clipS r).f0 r.f1) R := by
      refine Ev.step (fun k => ?_) hJ
      simp only [barrowref01_marks.j2]
      rw [e1]
      have ec : (clipS r).f1 = if 1000000000 < r.f1 then 1000000000 else r.f1 := rfl
      by_cases h1 : r.f1 > 1000000000
      · rw [if_pos h1]
        rw [if_pos (show 1000000000 < r.f1 from h1)] at ec
        by_cases h2 : (clipS r).f0 ≤ 1000000000
        · have ok : okB r = true := by unfold okB; rw [ec]; exact decide_eq_true h2
          rw [if_pos h2, if_pos (by omega)]
          simp only [Option.bind_some]
          rw [if_pos (by rw [List.length_append, List.length_singleton]; omega)]
          unfold mk1
          rw [if_pos ok, ec, List.append_assoc]
          rfl
        · have ok : ¬ okB r = true := by unfold okB; rw [ec]; simpa using h2
          rw [if_neg h2]
          unfold mk1
          rw [if_neg ok, List.append_nil]
      · rw [if_neg h1]
        rw [if_neg (show ¬ 1000000000 < r.f1 from h1)] at ec
        by_cases h2 : (clipS r).f0 ≤ r.f1
        · have ok : okB r = true := by unfold okB; rw [ec]; exact decide_eq_true h2
          have h3 : 1 ≤ (clipS r).f0 := by unfold clipS; simp only; split <;> omega
          rw [if_pos h2, if_pos (by omega)]
          simp only [Option.bind_some]
          rw [if_pos (by rw [List.length_append, List.length_singleton]; omega), w64 (x := r.f1 + 1) (by omega) (by omega)]
          unfold mk1
          rw [if_pos ok, ec, List.append_assoc]
          rfl
        · have ok : ¬ okB r = true := by unfold okB; rw [ec]; simpa using h2
          rw [if_neg h2]
          unfold mk1
          rw [if_neg ok, List.append_nil]
    refine Ev.step (fun k => ?_) key
    simp only [barrowref01_marks.l1]
    rw [if_pos (by omega), if_pos (by omega), hrow, if_pos hlt, if_pos (by omega), hget]
    unfold clipS
    simp only
    split <;> rfl
theorem marks_l0 (L : List (List S24)) (hL : L.length ≤ 4194304) (hr : ∀ l ∈ L, l.length ≤ 4194304) (pre suf : List (List S24)) (hp : L = pre ++ suf) : ∀ (acc : List S40), acc.length + 2 * suf.flatten.length ≤ 4194304 →
    Ev (fun k => barrowref01_marks.l0 k L acc (pre.length : Int)) (acc ++ mkAll (pre.length : Int) suf) := by
  induction suf generalizing pre with
  | nil =>
    intro acc _
    refine Ev.step (f := fun _ => some (acc ++ mkAll (pre.length : Int) [])) (fun k => ?_) (Ev.now _)
    simp only [barrowref01_marks.l0]
    rw [if_neg (by rw [hp]; simp)]
    simp [mkAll]
  | cons r t ih =>
    intro acc hl
    have e1 : wrap64 ((pre.length : Int) + 1) = ((pre ++ [r]).length : Int) := by rw [w64_nat _ (by rw [hp] at hL; simp at hL; omega)]; simp
    have hlt : pre.length < L.length := by rw [hp]; simp
    have hget : rd_L2 L (pre.length : Int) = r := by rw [hp]; exact rdL pre t r
    simp only [List.flatten_cons, List.length_append] at hl
    have hm := mkRow_len (pre.length : Int) r
    have hI := ih (pre ++ [r]) (by rw [hp]; simp) (acc ++ mkRow (pre.length : Int) r) (by rw [List.length_append]; omega)
    have e2 : ((pre ++ [r]).length : Int) = (pre.length : Int) + 1 := by simp
    have e3 : acc ++ mkAll (pre.length : Int) (r :: t) = (acc ++ mkRow (pre.length : Int) r) ++ mkAll ((pre ++ [r]).length : Int) t := by rw [e2]; simp [mkAll]
    rw [e3]
    refine Ev.step (f := fun k => barrowref01_marks.l1 k L acc (pre.length : Int) 0) (fun k => ?_) (marks_l1 L pre.length hlt r hget (hr r (by rw [hp]; simp)) _ [] r rfl acc (by omega) (by rw [e1]; exact hI))
    simp only [barrowref01_marks.l0]
    rw [if_pos (by omega)]
theorem marks_ev (L : List (List S24)) (hL : L.length ≤ 4194304) (hr : 2 * L.flatten.length ≤ 4194304) : Ev (fun k => barrowref01_marks.f k L) (mkAll 0 L) := by
  unfold barrowref01_marks.f
  have hr' : ∀ l ∈ L, l.length ≤ 4194304 := by
    intro l hl
    have : l.length ≤ L.flatten.length := by
      obtain ⟨a, b, rfl⟩ := List.append_of_mem hl
      simp
      omega
    omega
  have := marks_l0 L hL hr' [] L rfl [] (by simpa using hr)
  simpa using this

/-! ### the sort: by blocks that grow -/
def le72 (a b : S40) : Bool := decide (a.f0 ≤ b.f0)
def Srt (l : List S40) : Prop := l.Pairwise (fun a b => le72 a b = true)
def Blk (w : Nat) : List (List S40) → Prop
  | [] => True
  | c :: t => Srt c ∧ 0 < c.length ∧ ((t = [] ∧ c.length ≤ w) ∨ (t ≠ [] ∧ c.length = w ∧ Blk w t))
def passC : List (List S40) → List (List S40)
  | [] => []
  | [c] => [c]
  | c :: d :: t => List.merge c d le72 :: passC t
theorem srt_merge {c d : List S40} (hc : Srt c) (hd : Srt d) : Srt (List.merge c d le72) :=
  List.pairwise_merge (fun a b c h1 h2 => by simp [le72] at *; omega) (fun a b => by simp [le72]; omega) _ _ hc hd
theorem passC_nil {cs : List (List S40)} (h : passC cs = []) : cs = [] := by
  match cs with
  | [] => rfl
  | [c] => simp [passC] at h
  | c :: d :: t => simp [passC] at h
theorem blk_len {w : Nat} {c : List S40} {t : List (List S40)} (h : Blk w (c :: t)) : c.length ≤ w := by
  rcases h.2.2 with ⟨_, h⟩ | ⟨_, h, _⟩ <;> omega
theorem blk_pass (w : Nat) : ∀ (n : Nat) (cs : List (List S40)), cs.length ≤ n → Blk w cs → Blk (2 * w) (passC cs) := by
  intro n
  induction n with
  | zero => intro cs hn h; have : cs = [] := List.eq_nil_of_length_eq_zero (by omega); subst this; trivial
  | succ n ih =>
    intro cs hn h
    match cs, h with
    | [], _ => trivial
    | [c], h => exact ⟨h.1, h.2.1, .inl ⟨rfl, by have := blk_len h; omega⟩⟩
    | c :: d :: t, h =>
      obtain ⟨hc, hc0, h2⟩ := h
      rcases h2 with ⟨h2, _⟩ | ⟨_, hcw, hd⟩
      · simp at h2
      · have hdw := blk_len hd
        obtain ⟨hds, hd0, h3⟩ := hd
        have hlen : (List.merge c d le72).length = c.length + d.length := by rw [(List.merge_perm_append le72).length_eq, List.length_append]
        refine ⟨srt_merge hc hds, by rw [hlen]; omega, ?_⟩
        rcases h3 with ⟨rfl, h3⟩ | ⟨ht, h3, h4⟩
        · exact .inl ⟨rfl, by rw [hlen]; omega⟩
        · refine .inr ⟨fun e => ht (passC_nil e), by rw [hlen]; omega, ih t (by simp at hn; omega) h4⟩
theorem pass_perm : ∀ (n : Nat) (cs : List (List S40)), cs.length ≤ n → (passC cs).flatten.Perm cs.flatten := by
  intro n
  induction n with
  | zero => intro cs hn; have : cs = [] := List.eq_nil_of_length_eq_zero (by omega); subst this; exact List.Perm.refl _
  | succ n ih =>
    intro cs hn
    match cs with
    | [] => exact List.Perm.refl _
    | [c] => exact List.Perm.refl _
    | c :: d :: t =>
      simp only [passC, List.flatten_cons]
      rw [← List.append_assoc]
      exact List.Perm.append (List.merge_perm_append le72) (ih t (by simp at hn; omega))
theorem pass_len : ∀ (n : Nat) (cs : List (List S40)), cs.length ≤ n → (passC cs).length ≤ cs.length ∧ (2 ≤ cs.length → (passC cs).length < cs.length) := by
  intro n
  induction n with
  | zero => intro cs hn; have : cs = [] := List.eq_nil_of_length_eq_zero (by omega); subst this; simp [passC]
  | succ n ih =>
    intro cs hn
    match cs with
    | [] => simp [passC]
    | [c] => simp [passC]
    | c :: d :: t =>
      have := ih t (by simp at hn; omega)
      simp only [passC, List.length_cons]
      omega

theorem rd72 (pre suf : List S40) (r : S40) (i : Int) (hi : i = (pre.length : Int)) : rd_T40 (pre ++ r :: suf) i = r := by
  subst hi
  unfold rd_T40
  rw [Int.toNat_natCast, List.getD_eq_getElem?_getD, List.getElem?_append_right (Nat.le_refl _), Nat.sub_self]
  rfl
theorem len_at {x0 pa qa : List S40} {r : S40} (h : x0 = pa ++ r :: qa) : pa.length < x0.length := by rw [h, List.length_append, List.length_cons]; omega
/-- One merge. -/
theorem sorted_l2 (x0 : List S40) (hn : x0.length ≤ 4194304) (w lo : Int) (R : List S40) : ∀ (d : Nat) (pa sa qa pb sb qb out : List S40) (i mid j hi : Int), sa.length + sb.length ≤ d → x0 = pa ++ (sa ++ qa) → x0 = pb ++ (sb ++ qb) →
    i = (pa.length : Int) → j = (pb.length : Int) → mid = i + (sa.length : Int) → hi = j + (sb.length : Int) → out.length + (sa.length + sb.length) ≤ 4194304 →
    Ev (fun k => barrowref01_sorted.l1 k x0 (x0.length : Int) w (out ++ List.merge sa sb le72) (wrap64 (lo + wrap64 (2 * w)))) R →
    Ev (fun k => barrowref01_sorted.l2 k x0 (x0.length : Int) w out lo mid hi i j) R := by
  intro d
  induction d with
  | zero =>
    intro pa sa qa pb sb qb out i mid j hi hd hxa hxb hi1 hj1 hmid hhi ho hE
    have ha : sa = [] := List.eq_nil_of_length_eq_zero (by omega)
    have hb : sb = [] := List.eq_nil_of_length_eq_zero (by omega)
    subst ha; subst hb
    rw [List.length_nil] at hmid hhi
    refine Ev.step (f := fun k => barrowref01_sorted.j5 k x0 (x0.length : Int) w out lo mid hi i j false) (fun k => ?_) (Ev.step (fun k => ?_) (by simpa using hE))
    · rw [barrowref01_sorted.l2, if_neg (by omega), decide_eq_false (by omega)]
    · rw [barrowref01_sorted.j5, if_neg (by decide)]
  | succ d ih =>
    intro pa sa qa pb sb qb out i mid j hi hd hxa hxb hi1 hj1 hmid hhi ho hE
    cases sa with
    | nil =>
      rw [List.length_nil] at hmid hd ho
      cases sb with
      | nil =>
        rw [List.length_nil] at hhi
        refine Ev.step (f := fun k => barrowref01_sorted.j5 k x0 (x0.length : Int) w out lo mid hi i j false) (fun k => ?_) (Ev.step (fun k => ?_) (by simpa using hE))
        · rw [barrowref01_sorted.l2, if_neg (by omega), decide_eq_false (by omega)]
        · rw [barrowref01_sorted.j5, if_neg (by decide)]
      | cons s u =>
        rw [List.length_cons] at hhi hd ho
        have hl := len_at (qa := u ++ qb) (r := s) hxb
        have hg : rd_T40 x0 j = s := by rw [hxb]; exact rd72 pb (u ++ qb) s j hj1
        have e1 : wrap64 (j + 1) = j + 1 := w64 (by omega) (by omega)
        have hI := ih pa [] qa (pb ++ [s]) u qb (out ++ [s]) i mid (j + 1) hi (by rw [List.length_nil]; omega) hxa (by rw [hxb]; simp) hi1 (by rw [List.length_append, List.length_singleton]; omega) (by rw [List.length_nil]; omega) (by omega) (by rw [List.length_append, List.length_singleton, List.length_nil]; omega) (by simpa using hE)
        refine Ev.step (f := fun k => barrowref01_sorted.j5 k x0 (x0.length : Int) w out lo mid hi i j true) (fun k => ?_) (Ev.step (fun k => ?_) hI)
        · rw [barrowref01_sorted.l2, if_neg (by omega), decide_eq_true (by omega)]
        · rw [barrowref01_sorted.j5, if_pos rfl, if_neg (by omega), if_neg (by omega), if_pos (by omega), if_pos (by omega), if_pos (by omega), hg, e1]
    | cons r t =>
      rw [List.length_cons] at hmid hd ho
      have hla := len_at (qa := t ++ qa) (r := r) hxa
      have hga : rd_T40 x0 i = r := by rw [hxa]; exact rd72 pa (t ++ qa) r i hi1
      have e1 : wrap64 (i + 1) = i + 1 := w64 (by omega) (by omega)
      have hstart : ∀ {X : List S40}, Ev (fun k => barrowref01_sorted.j5 k x0 (x0.length : Int) w out lo mid hi i j true) X → Ev (fun k => barrowref01_sorted.l2 k x0 (x0.length : Int) w out lo mid hi i j) X := by
        intro X h
        refine Ev.step (fun k => ?_) h
        rw [barrowref01_sorted.l2, if_pos (by omega)]
      cases sb with
      | nil =>
        rw [List.length_nil] at hhi hd ho
        have hI := ih (pa ++ [r]) t qa pb [] qb (out ++ [r]) (i + 1) mid j hi (by rw [List.length_nil]; omega) (by rw [hxa]; simp) hxb (by rw [List.length_append, List.length_singleton]; omega) hj1 (by omega) (by rw [List.length_nil]; omega) (by rw [List.length_append, List.length_singleton, List.length_nil]; omega) (by simpa using hE)
        refine hstart (Ev.step (fun k => ?_) hI)
        rw [barrowref01_sorted.j5, if_pos rfl, if_pos (by omega), if_pos (by omega), if_pos (by omega), if_pos (by omega), hga, e1]
      | cons s u =>
        rw [List.length_cons] at hhi hd ho
        have hl := len_at (qa := u ++ qb) (r := s) hxb
        have hgb : rd_T40 x0 j = s := by rw [hxb]; exact rd72 pb (u ++ qb) s j hj1
        have e2 : wrap64 (j + 1) = j + 1 := w64 (by omega) (by omega)
        by_cases hc : r.f0 ≤ s.f0
        · have em : List.merge (r :: t) (s :: u) le72 = r :: List.merge t (s :: u) le72 := by rw [List.cons_merge_cons, if_pos (by simp [le72, hc])]
          rw [em] at hE
          have hI := ih (pa ++ [r]) t qa pb (s :: u) qb (out ++ [r]) (i + 1) mid j hi (by rw [List.length_cons]; omega) (by rw [hxa]; simp) hxb (by rw [List.length_append, List.length_singleton]; omega) hj1 (by omega) (by rw [List.length_cons]; omega) (by rw [List.length_append, List.length_singleton, List.length_cons]; omega) (by rw [List.append_assoc]; exact hE)
          refine hstart (Ev.step (fun k => ?_) hI)
          rw [barrowref01_sorted.j5, if_pos rfl, if_neg (by omega), if_pos (by omega), if_pos (by omega), if_pos (by omega), if_pos (by omega), if_pos (by omega), hga, hgb, if_pos hc, if_pos (by omega), e1]
        · have em : List.merge (r :: t) (s :: u) le72 = s :: List.merge (r :: t) u le72 := by rw [List.cons_merge_cons, if_neg (by simp [le72]; omega)]
          rw [em] at hE
          have hI := ih pa (r :: t) qa (pb ++ [s]) u qb (out ++ [s]) i mid (j + 1) hi (by rw [List.length_cons]; omega) hxa (by rw [hxb]; simp) hi1 (by rw [List.length_append, List.length_singleton]; omega) (by rw [List.length_cons]; omega) (by omega) (by rw [List.length_append, List.length_singleton, List.length_cons]; omega) (by rw [List.append_assoc]; exact hE)
          refine hstart (Ev.step (fun k => ?_) hI)
          rw [barrowref01_sorted.j5, if_pos rfl, if_neg (by omega), if_pos (by omega), if_pos (by omega), if_pos (by omega), if_pos (by omega), if_pos (by omega), hga, hgb, if_neg hc, if_pos (by omega), e2]
/-- From l1 to the merge, for two blocks. -/
theorem sorted_two (x0 : List S40) (hn : x0.length ≤ 4194304) (w : Nat) (hw : 1 ≤ w) (hw2 : w ≤ 4194304) (R : List S40) (P c e C out : List S40) (hx2 : x0 = P ++ (c ++ (e ++ C))) (ho : out.length = P.length) (hc0 : 0 < c.length) (hcw : c.length ≤ w) (hew : e.length ≤ w) (hC : C ≠ [] → e.length = w) (heC : e ++ C ≠ [] → c.length = w)
    (hE2 : Ev (fun k => barrowref01_sorted.l1 k x0 (x0.length : Int) (w : Int) (out ++ List.merge c e le72) (wrap64 ((P.length : Int) + wrap64 (2 * (w : Int))))) R) : Ev (fun k => barrowref01_sorted.l1 k x0 (x0.length : Int) (w : Int) out (P.length : Int)) R := by
  have hxl2 : x0.length = P.length + (c.length + (e.length + C.length)) := by rw [hx2]; simp only [List.length_append]
  have hm := sorted_l2 x0 hn (w : Int) (P.length : Int) R _ P c (e ++ C) (P ++ c) e C out (P.length : Int) ((P.length : Int) + (c.length : Int)) ((P.length : Int) + (c.length : Int)) ((P.length : Int) + (c.length : Int) + (e.length : Int)) (Nat.le_refl _) hx2 (by rw [hx2]; simp) rfl (by rw [List.length_append]; omega) rfl rfl (by omega) hE2
  have hmid : (if wrap64 ((P.length : Int) + (w : Int)) > (x0.length : Int) then (x0.length : Int) else wrap64 ((P.length : Int) + (w : Int))) = (P.length : Int) + (c.length : Int) := by
    rw [w64 (by omega) (by omega)]
    by_cases h5 : e ++ C = []
    · have h6 : e.length + C.length = 0 := by rw [← List.length_append, h5]; rfl
      split <;> omega
    · have := heC h5
      rw [if_neg (by omega)]; omega
  have hhi : (if wrap64 ((P.length : Int) + (c.length : Int) + (w : Int)) > (x0.length : Int) then (x0.length : Int) else wrap64 ((P.length : Int) + (c.length : Int) + (w : Int))) = (P.length : Int) + (c.length : Int) + (e.length : Int) := by
    rw [w64 (by omega) (by omega)]
    by_cases h5 : C = []
    · have h6 : C.length = 0 := by rw [h5]; rfl
      split <;> omega
    · have := hC h5
      rw [if_neg (by omega)]; omega
  refine Ev.step (f := fun k => barrowref01_sorted.j2 k x0 (x0.length : Int) (w : Int) out (P.length : Int) ((P.length : Int) + (c.length : Int))) (fun k => ?_) (Ev.step (f := fun k => barrowref01_sorted.j3 k x0 (x0.length : Int) (w : Int) out (P.length : Int) ((P.length : Int) + (c.length : Int)) ((P.length : Int) + (c.length : Int) + (e.length : Int))) (fun k => ?_) (Ev.step (fun k => ?_) hm))
  · rw [barrowref01_sorted.l1, if_pos (by omega), ← hmid]
    split <;> rfl
  · rw [barrowref01_sorted.j2, ← hhi]
    split <;> rfl
  · rw [barrowref01_sorted.j3]
theorem sorted_end (x0 : List S40) (w : Int) (out : List S40) (i : Int) (R : List S40) (hi : (x0.length : Int) ≤ i) (h : Ev (fun k => barrowref01_sorted.l0 k out (x0.length : Int) (wrap64 (2 * w))) R) : Ev (fun k => barrowref01_sorted.l1 k x0 (x0.length : Int) w out i) R := by
  refine Ev.step (fun k => ?_) h
  rw [barrowref01_sorted.l1, if_neg (by omega)]
theorem merge_nil (c : List S40) : List.merge c [] le72 = c := by cases c <;> simp
/-- One pass. -/
theorem sorted_l1 (x0 : List S40) (hn : x0.length ≤ 4194304) (w : Nat) (hw : 1 ≤ w) (hw2 : w ≤ 4194304) (R : List S40) : ∀ (d : Nat) (P : List S40) (cs : List (List S40)) (out : List S40), cs.length ≤ d → x0 = P ++ cs.flatten → Blk w cs → out.length = P.length →
    Ev (fun k => barrowref01_sorted.l0 k (out ++ (passC cs).flatten) (x0.length : Int) (wrap64 (2 * (w : Int)))) R → Ev (fun k => barrowref01_sorted.l1 k x0 (x0.length : Int) (w : Int) out (P.length : Int)) R := by
  intro d
  induction d with
  | zero =>
    intro P cs out hd hx hB ho hE
    have : cs = [] := List.eq_nil_of_length_eq_zero (by omega)
    subst this
    refine sorted_end x0 _ out _ R ?_ (by simpa [passC] using hE)
    rw [hx]; simp
  | succ d ih =>
    intro P cs out hd hx hB ho hE
    have e2w : wrap64 (2 * (w : Int)) = 2 * (w : Int) := w64 (by omega) (by omega)
    have hPl : P.length ≤ x0.length := by rw [hx, List.length_append]; omega
    have e3w : wrap64 ((P.length : Int) + wrap64 (2 * (w : Int))) = (P.length : Int) + 2 * (w : Int) := by rw [e2w]; exact w64 (by omega) (by omega)
    match cs, hB, hx, hd, hE with
    | [], hB, hx, hd, hE =>
      refine sorted_end x0 _ out _ R ?_ (by simpa [passC] using hE)
      rw [hx]; simp
    | [c], hB, hx, hd, hE =>
      have hcl := blk_len hB
      have hxl : x0.length = P.length + c.length := by rw [hx]; simp
      refine sorted_two x0 hn w hw hw2 R P c [] [] out (by simpa using hx) ho hB.2.1 hcl (by simp) (by simp) (by simp) ?_
      rw [e3w, merge_nil]
      exact sorted_end x0 _ _ _ R (by omega) (by simpa [passC] using hE)
    | c :: e :: t, hB, hx, hd, hE =>
      obtain ⟨hc, hc0, h2⟩ := hB
      rcases h2 with ⟨h2, _⟩ | ⟨_, hcw, hBe⟩
      · simp at h2
      · have hew := blk_len hBe
        obtain ⟨he, he0, h3⟩ := hBe
        have hx' : x0 = P ++ (c ++ (e ++ t.flatten)) := by simpa using hx
        have hxl : x0.length = P.length + (c.length + (e.length + t.flatten.length)) := by rw [hx']; simp only [List.length_append]
        have hml : (List.merge c e le72).length = c.length + e.length := by rw [(List.merge_perm_append le72).length_eq, List.length_append]
        refine sorted_two x0 hn w hw hw2 R P c e t.flatten out hx' ho hc0 (by omega) hew (fun hne => ?_) (fun _ => hcw) ?_
        · rcases h3 with ⟨rfl, _⟩ | ⟨_, h3, _⟩
          · exact absurd rfl hne
          · exact h3
        · rcases h3 with ⟨rfl, h3⟩ | ⟨ht, h3, h4⟩
          · rw [e3w]
            have : ([] : List (List S40)).flatten.length = 0 := rfl
            exact sorted_end x0 _ _ _ R (by omega) (by simpa [passC] using hE)
          · have hI := ih (P ++ (c ++ e)) t (out ++ List.merge c e le72) (by simp at hd; omega) (by rw [hx']; simp) h4 (by rw [List.length_append, List.length_append, hml, List.length_append]; omega) (by simpa [passC] using hE)
            have ep : wrap64 ((P.length : Int) + wrap64 (2 * (w : Int))) = ((P ++ (c ++ e)).length : Int) := by
              rw [e3w, List.length_append, List.length_append]
              omega
            rw [ep]
            exact hI
theorem sorted_l0 (n : Nat) (hn : n ≤ 4194304) : ∀ (d : Nat) (cs : List (List S40)) (w : Nat), cs.length ≤ d → 1 ≤ w → w ≤ 2 * 4194304 → Blk w cs → cs.flatten.length = n →
    ∃ s, Ev (fun k => barrowref01_sorted.l0 k cs.flatten (n : Int) (w : Int)) s ∧ s.Perm cs.flatten ∧ Srt s := by
  intro d
  induction d with
  | zero =>
    intro cs w hd hw1 hw2 hB hl
    have : cs = [] := List.eq_nil_of_length_eq_zero (by omega)
    subst this
    refine ⟨[], Ev.step (f := fun _ => some []) (fun k => ?_) (Ev.now _), List.Perm.refl _, List.Pairwise.nil⟩
    simp only [barrowref01_sorted.l0]
    simp at hl
    rw [if_neg (by omega)]
    rfl
  | succ d ih =>
    intro cs w hd hw1 hw2 hB hl
    by_cases hc : (w : Int) < (n : Int)
    · have h2 : 2 ≤ cs.length := by
        match cs, hB with
        | [], _ => simp at hl; omega
        | [c], hB => have := blk_len hB; simp at hl; omega
        | c :: e :: t, _ => simp
      have hpl := pass_len _ cs (Nat.le_refl _)
      have hpp := pass_perm _ cs (Nat.le_refl _)
      have hpb := blk_pass w _ cs (Nat.le_refl _) hB
      obtain ⟨s, hs, hs2, hs3⟩ := ih (passC cs) (2 * w) (by have := hpl.2 h2; omega) (by omega) (by omega) hpb (by rw [hpp.length_eq, hl])
      refine ⟨s, ?_, hs2.trans hpp, hs3⟩
      have hl1 := sorted_l1 cs.flatten (by omega) w hw1 (by omega) s _ [] cs [] (Nat.le_refl _) (by simp) hB rfl (by
        rw [hl, w64 (by omega) (by omega), List.nil_append]
        exact hs)
      refine Ev.step (f := fun k => barrowref01_sorted.l1 k cs.flatten (n : Int) (w : Int) [] 0) (fun k => ?_) (by rw [hl] at hl1; exact hl1)
      simp only [barrowref01_sorted.l0]
      rw [if_pos hc, if_pos (by omega), if_pos (by omega)]
    · refine ⟨cs.flatten, Ev.step (f := fun _ => some cs.flatten) (fun k => ?_) (Ev.now _), List.Perm.refl _, ?_⟩
      · simp only [barrowref01_sorted.l0]
        rw [if_neg hc]
      · match cs, hB with
        | [], _ => exact List.Pairwise.nil
        | [c], hB => simpa using hB.1
        | c :: e :: t, hB =>
          exfalso
          obtain ⟨hc1, hc0, h2⟩ := hB
          rcases h2 with ⟨h2, _⟩ | ⟨_, hcw, hBe⟩
          · simp at h2
          · have := hBe.2.1
            simp at hl
            omega
theorem blk_ones (l : List S40) : Blk 1 (l.map fun x => [x]) := by
  induction l with
  | nil => trivial
  | cons x t ih =>
    refine ⟨List.pairwise_singleton _ _, by simp, ?_⟩
    cases t with
    | nil => exact .inl ⟨rfl, by simp⟩
    | cons y u => exact .inr ⟨by simp, by simp, ih⟩
theorem flatten_ones (l : List S40) : (l.map fun x => [x]).flatten = l := by
  induction l with
  | nil => rfl
  | cons x t ih => simp only [List.map_cons, List.flatten_cons, ih]; rfl
theorem sorted_ev (l : List S40) (h : l.length ≤ 4194304) : ∃ s, Ev (fun k => barrowref01_sorted.f k l) s ∧ s.Perm l ∧ Srt s := by
  obtain ⟨s, h1, h2, h3⟩ := sorted_l0 l.length h _ (l.map fun x => [x]) 1 (Nat.le_refl _) (Nat.le_refl _) (by omega) (blk_ones l) (by rw [flatten_ones])
  rw [flatten_ones] at h1 h2
  exact ⟨s, h1, h2, h3⟩
end Go.Proofs.Ytcblhfnjcanliaa.Pure
