import Derived.Test.YtlmdcpooogaolaaDoorQTh19
import Derived.Test.YtlmdcpooogaolaaDoorQTh14
import Derived.Test.YtlmdcpooogaolaaDoorQTh20
import Derived.Test.YtlmdcpooogaolaaDoorQTh22
import Derived.Test.YtlmdcpooogaolaaDoorQTh10
/- What span.Show answers: the form's text. -/
namespace Go.Proofs.YtlmdcpooogaolaaDoor.Txt
open Go.RowKit Go.Proofs.YtlmdcpooogaolaaDoor.G Go.Proofs.YtlmdcpooogaolaaDoor.Dec Go.Proofs.YtlmdcpooogaolaaDoor.Pure Go.Proofs.YtlmdcpooogaolaaDoorW.PrintWords Go.Proofs.YtlmdcpooogaolaaDoorW.PrintLast
set_option linter.unusedVariables false
def itoaB (n : Int) : ByteArray := ⟨(Lib.itoa n).toArray⟩
theorem itoa_f (n : Int) (h0 : 0 ≤ n) (h1 : n ≤ 1000000000) : strconv_Itoa.f n = some (itoaB n) := by
  unfold strconv_Itoa.f; rw [if_pos ⟨by omega, by omega⟩]; rfl
theorem itoa_bytes (n : Int) (h0 : 0 ≤ n) : bytesOf (itoaB n) = digs n.toNat := by
  unfold itoaB
  rw [bytes_mk]
  unfold Lib.itoa
  rw [if_neg (by omega)]
  exact decDigits_digs _
theorem itoa_size (n : Int) (h0 : 0 ≤ n) (h1 : n ≤ 1000000000) : (itoaB n).size ≤ 10 := by
  rw [← bytesOf_length, itoa_bytes n h0]; exact digs_len10 _ (by omega)
def partB (r : S32) : ByteArray := if r.f0 < r.f1 then itoaB r.f0 ++ ((⟨#[46, 46]⟩ : ByteArray) ++ itoaB r.f1) else itoaB r.f0
theorem part_bytes (r : S32) (h : Pure.Good r) : bytesOf (partB r) = runText r := by
  obtain ⟨h1, h2, h3⟩ := h
  unfold partB runText
  by_cases hc : r.f0 < r.f1
  · rw [if_pos hc, if_pos hc, bytesOf_append, bytesOf_append, itoa_bytes _ (by omega), itoa_bytes _ (by omega)]; rfl
  · rw [if_neg hc, if_neg hc, itoa_bytes _ (by omega), List.append_nil]
theorem ints_append (a b : List UInt8) : ints (a ++ b) = ints a ++ ints b := by simp [ints]
theorem join_ints : ∀ ps : List (List UInt8), ints (Lib.join ps [44]) = joinL (ps.map ints)
  | [] => rfl
  | [p] => by simp [Lib.join, joinL]
  | p :: q :: r => by
    have ih := join_ints (q :: r)
    have e : Lib.join (p :: q :: r) [44] = p ++ ([44] ++ Lib.join (q :: r) [44]) := by simp [Lib.join]
    rw [e, ints_append, ints_append, ih]
    rfl
def showB (ps : List ByteArray) : ByteArray := if ps = [] then ⟨#[110, 111, 110, 101]⟩ else ⟨(Lib.join (ps.map (·.data.toList)) [44]).toArray⟩
theorem show_bytes (n : List S32) (hg : ∀ r ∈ n, Pure.Good r) : bytesOf (showB (n.map partB)) = showL n := by
  unfold showB showL
  by_cases h : n = []
  · subst h; rfl
  · rw [if_neg (by simpa using h), if_neg h, bytes_mk, join_ints, List.map_map, List.map_map]
    unfold txt
    congr 1
    exact List.map_congr_left fun r hr => part_bytes r (hg r hr)
theorem joinL_len : ∀ ps : List (List Int), (∀ p ∈ ps, p.length ≤ 22) → (joinL ps).length ≤ 23 * ps.length
  | [], _ => by simp [joinL]
  | [p], h => by have := h p (by simp); simp [joinL]; omega
  | p :: q :: r, h => by
    have := h p (by simp)
    have ih := joinL_len (q :: r) (fun x hx => h x (by simp [hx]))
    simp [joinL] at ih ⊢
    omega
theorem txt_len (n : List S32) (hg : ∀ r ∈ n, Pure.Good r) : (txt n).length ≤ 23 * n.length := by
  have := joinL_len (n.map runText) (fun p hp => by
    obtain ⟨r, hr, rfl⟩ := List.mem_map.1 hp
    exact runText_len r (hg r hr))
  rw [List.length_map] at this
  exact this
theorem joinF (n : List S32) (hg : ∀ r ∈ n, Pure.Good r) (hne : n ≠ []) (hl : n.length ≤ 1000000000) : strings_Join.f (n.map partB) (⟨#[44]⟩ : ByteArray) = some (showB (n.map partB)) := by
  have e : (Lib.join ((n.map partB).map (·.data.toList)) (⟨#[44]⟩ : ByteArray).data.toList).length = (txt n).length := by
    have h1 := congrArg List.length (show_bytes n hg)
    unfold showB showL at h1
    rw [if_neg (by simpa using hne), if_neg hne, bytes_mk, ints, List.length_map] at h1
    exact h1
  have := txt_len n hg
  unfold strings_Join.f
  rw [if_pos ⟨by simp; omega, by rw [e]; omega⟩]
  unfold showB
  rw [if_neg (by simpa using hne)]
theorem show_l0 (row : List S32) (hr : row.length ≤ 1000000000) (hg : ∀ r ∈ row, Pure.Good r) (pre suf : List S32) (hp : row = pre ++ suf) :
    Ev (fun k => span_Show.l0 k (pre.map partB) row (row.length : Int) (pre.length : Int)) (showB (row.map partB)) := by
  induction suf generalizing pre with
  | nil =>
    rw [List.append_nil] at hp
    subst hp
    refine Ev.step (f := fun _ => some (showB (row.map partB))) (fun k => ?_) (Ev.now _)
    simp only [span_Show.l0]
    rw [if_neg (by omega)]
    by_cases h : row = []
    · subst h; rfl
    · rw [if_neg (by
        have := List.length_pos_iff.2 h
        simp; exact h), joinF row hg h hr]
      rfl
  | cons r t ih =>
    have hgr := hg r (by rw [hp]; simp)
    obtain ⟨g1, g2, g3⟩ := hgr
    have hl : row.length = pre.length + (t.length + 1) := by rw [hp]; simp
    have hlt : (pre.length : Int) < (row.length : Int) := by omega
    have hget : rd_T32 row (pre.length : Int) = r := by rw [hp]; exact rdT pre t r
    have e1 : wrap64 ((pre.length : Int) + 1) = ((pre ++ [r]).length : Int) := by rw [w64_nat _ (by omega)]; simp
    have hI := ih (pre ++ [r]) (by rw [hp]; simp)
    rw [List.map_append, List.map_cons, List.map_nil] at hI
    have z0 := itoa_size r.f0 (by omega) (by omega)
    have z1 := itoa_size r.f1 (by omega) (by omega)
    have hz : ((⟨#[46, 46]⟩ : ByteArray) ++ itoaB r.f1).size = 2 + (itoaB r.f1).size := by rw [ByteArray.size_append]; rfl
    refine Ev.step (fun k => ?_) hI
    simp only [span_Show.l0]
    rw [if_pos hlt, if_pos (by omega), if_pos hlt, hget, itoa_f _ (by omega) (by omega), Option.bind_some]
    by_cases hc : r.f0 < r.f1
    · have e2 : partB r = itoaB r.f0 ++ ((⟨#[46, 46]⟩ : ByteArray) ++ itoaB r.f1) := by unfold partB; rw [if_pos hc]
      rw [if_pos hc, itoa_f _ (by omega) (by omega), Option.bind_some, if_pos (by omega), if_pos (by rw [hz]; omega), if_pos (by simp; omega), e1, e2]
    · have e2 : partB r = itoaB r.f0 := by unfold partB; rw [if_neg hc]
      rw [if_neg (by omega), if_pos (by simp; omega), e1, e2]
theorem show_ev (l : List S32) (h : Fit l) : Ev (fun k => span_Show.f k l) (showB ((canon l).map partB)) := by
  have hc := canon_norm' l
  have hl := hc.len
  unfold span_Show.f
  refine Ev.bind (norm_ev l h) ?_
  exact show_l0 (canon l) (by omega) (NormFrom.good (by omega) hc) [] (canon l) rfl
theorem show_canon (l : List S32) : bytesOf (showB ((canon l).map partB)) = showL (canon l) := show_bytes _ (NormFrom.good (by omega) (canon_norm' l))
theorem same_str {s t : ByteArray} (h : bytesOf s = bytesOf t) : s.toList = t.toList := by
  rw [ByteArray.toList_eq, ByteArray.toList_eq]
  exact ints_inj _ _ (by rw [← bytes_ints, ← bytes_ints, h])
theorem norm_of {l : List S32} (h : normB (-1) l = true) : Norm l := (normB_iff l (-1)).1 h
theorem read_show (l : List S32) : readD (showB ((canon l).map partB)) = (canon l, 0) := by
  by_cases h : canon l = []
  · have e := show_canon l
    rw [h] at e ⊢
    unfold readD
    rw [if_pos ((toList_bytes _).2 e)]
  · refine read_txt _ _ (canon_norm' l) h ?_
    rw [show_canon]
    unfold showL
    rw [if_neg h]
theorem fold_len : ∀ (l o : List S32), (l.foldl addS o).length ≤ o.length + l.length
  | [], o => by simp
  | r :: t, o => by
    have h1 := fold_len t (addS o r)
    have h2 := addS_len o r
    simp only [List.foldl_cons, List.length_cons]
    omega
theorem canon_len (l : List S32) : (canon l).length ≤ l.length := by
  unfold canon foldS
  have h1 := fold_len ((clips l).mergeSort (fun a b => decide (a.f0 ≤ b.f0))) []
  have h2 := clips_len l
  rw [List.length_mergeSort] at h1
  simp at h1
  omega
theorem show_size (l : List S32) (h : l.length ≤ 1000000) : (showB ((canon l).map partB)).size < 4294967281 := by
  rw [← bytesOf_length, show_canon]
  unfold showL
  split
  · simp
  · have h1 := txt_len (canon l) (NormFrom.good (by omega) (canon_norm' l))
    have h2 := canon_len l
    omega
end Go.Proofs.YtlmdcpooogaolaaDoor.Txt

/- SpanThere: Read of Show is the form, Show of Read the text. For every list of at most 349525 runs and every text of at most 1048576 bytes. -/
namespace Go.Proofs.YtlmdcpooogaolaaDoor.Pure
open Go.RowKit Go.Proofs.YtlmdcpooogaolaaDoor.G Go.Proofs.YtlmdcpooogaolaaDoor.Txt Go.Proofs.YtlmdcpooogaolaaDoorW.PrintWords Go.Proofs.YtlmdcpooogaolaaDoorW.PrintLast
set_option linter.unusedVariables false
theorem readg (s : ByteArray) (hs : s.size < 4294967281) : span_Read.f s = some (readD s) := by
  unfold span_Read.f; rw [if_pos hs]
theorem there_j1 (s : ByteArray) (hs : s.size ≤ 1048576) : Ev (fun k => barrowlaw01_SpanThere.j1 k s false) true := by
  have hr := readg s (by omega)
  by_cases h0 : (readD s).2 = 0
  · have hl : Fit (readD s).1 := by
      have h1 : ((split s).map runD).length ≤ s.size + 1 := by rw [List.length_map]; exact spl_len _ s
      unfold readD
      split
      · exact Nat.zero_le _
      · split
        · split
          · show ((split s).map runD).length ≤ _; omega
          · exact Nat.zero_le _
        · exact Nat.zero_le _
    have key : Norm (readD s).1 ∧ bytesOf s = showL (readD s).1 := by
      by_cases hb : bytesOf s = [110, 111, 110, 101]
      · have e : readD s = ([], 0) := by unfold readD; rw [if_pos ((toList_bytes s).2 hb)]
        rw [e]
        exact ⟨norm_of rfl, hb⟩
      · rcases read_back s hb with ⟨n, hn, hne, ht, e⟩ | e
        · rw [e]
          exact ⟨hn, by unfold showL; rw [if_neg hne]; exact ht⟩
        · rw [e] at h0; cases h0
    have h1 := show_ev (readD s).1 hl
    have h2 := isNorm_ev (readD s).1 hl
    rw [(normB_iff _ _).2 key.1] at h2
    have e : (showB ((canon (readD s).1).map partB)).toList = s.toList := same_str (by rw [show_canon, canon_norm key.1, key.2])
    have h3 := h1.bind (f := fun (k : Nat) (x : ByteArray) => if x.toList = s.toList then (span_IsNorm.f k (readD s).1).bind fun t => some t else some false) (r := true) (by
      refine ev_congr (fun k => by rw [if_pos e]) (h2.bind (Ev.now _)))
    refine Ev.step (fun k => ?_) h3
    simp only [barrowlaw01_SpanThere.j1]
    rw [if_neg (by decide), hr, Option.bind_some, if_pos h0]
  · have e : readD s = ([], 17) := by
      by_cases hb : bytesOf s = [110, 111, 110, 101]
      · exfalso; apply h0; unfold readD; rw [if_pos ((toList_bytes s).2 hb)]
      · rcases read_back s hb with ⟨n, hn, hne, ht, e⟩ | e
        · rw [e] at h0; exact absurd rfl h0
        · exact e
    refine Ev.step (f := fun _ => some true) (fun k => ?_) (Ev.now _)
    simp only [barrowlaw01_SpanThere.j1]
    rw [if_neg (by decide), hr, Option.bind_some, e]
    rfl
theorem SpanThere (l : List S32) (s : ByteArray) (hl : l.length ≤ 349525) (hw : ∀ r ∈ l, (Lit.int .i64 r.f0).wf = true ∧ (Lit.int .i64 r.f1).wf = true) (hs : s.size ≤ 1048576) : ∃ k, barrowlaw01_SpanThere.f k l s = some true := by
  refine Ev.rounds ?_
  unfold barrowlaw01_SpanThere.f
  have e0 : canon [⟨2, 2⟩] = [⟨2, 2⟩] := canon_norm (norm_of (by decide))
  have h0 := show_ev [⟨2, 2⟩] (by decide)
  refine Ev.bind h0 ?_
  have r0 := read_show [⟨2, 2⟩]
  rw [e0] at r0 ⊢
  have f0 : span_Read.f (showB ([(⟨2, 2⟩ : S32)].map partB)) = some ([⟨2, 2⟩], 0) := by
    rw [readg _ (by have := show_size [⟨2, 2⟩] (by decide); rw [e0] at this; exact this), r0]
  have h1 := show_ev l (by show l.length ≤ _; omega)
  have h2 := norm_ev l (by show l.length ≤ _; omega)
  have h3 := eq_ev (canon l) (canon l) (canon_norm' l).fit
  rw [decide_eq_true rfl] at h3
  have f1 : span_Read.f (showB ((canon l).map partB)) = some (canon l, 0) := by rw [readg _ (show_size l (by omega)), read_show]
  have h4 := h1.bind (f := fun (k : Nat) (x : ByteArray) => (span_Read.f x).bind fun bt306 => (if bt306.2 = 0 then ((span_Norm.f k l).bind fun t310 => ((barrowref01_Equal.f k bt306.1 t310).bind fun t313 => (barrowlaw01_SpanThere.j1 k s (!t313)))) else (barrowlaw01_SpanThere.j1 k s true))) (r := true) (by
    refine ev_congr (f := fun k => (span_Norm.f k l).bind fun t310 => (barrowref01_Equal.f k (canon l) t310).bind fun t313 => barrowlaw01_SpanThere.j1 k s (!t313)) (fun k => by rw [f1, Option.bind_some, if_pos rfl]) ?_
    exact h2.bind (h3.bind (there_j1 s hs)))
  refine Ev.step (fun k => ?_) h4
  rw [f0, Option.bind_some, if_pos rfl, if_pos (by decide), if_pos (by decide)]
  have hb : ((rd_T32 ([(⟨2, 2⟩ : S32)], (0 : Int)).1 0).f0 != 2) = false := by decide
  rw [hb]
  simp only [barrowlaw01_SpanThere.j0]
  rw [if_neg (by decide)]
end Go.Proofs.YtlmdcpooogaolaaDoor.Pure
