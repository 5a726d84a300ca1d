import Derived.Test.YtlmdcpooogaolaaDoorQSh20
import Derived.Test.YtlmdcpooogaolaaDoorQSh15
import Derived.Test.YtlmdcpooogaolaaDoorQSh21
import Derived.Test.YtlmdcpooogaolaaDoorQSh11
/- What span.Show answers: the form's text. -/
namespace Go.Proofs.YtlmdcpooogaolaaDoor.Txt
open Go.RowKit Go.Proofs.YtlmdcpooogaolaaDoor.G Go.Proofs.YtlmdcpooogaolaaDoor.Dec Go.Proofs.YtlmdcpooogaolaaDoor.Pure Go.Proofs.YtlmdcpooogaolaaDoorW.PrintWords Go.Proofs.YtlmdcpooogaolaaDoorW.PrintLast
set_option linter.unusedVariables false
def itoaB (n : Int) : ByteArray := ⟨(Lib.itoa n).toArray⟩
theorem itoa_f (n : Int) (h0 : 0 ≤ n) (h1 : n ≤ 1000000000) : strconv_Itoa.f n = some (itoaB n) := by
  unfold strconv_Itoa.f; rw [if_pos ⟨by omega, by omega⟩]; rfl
theorem itoa_bytes (n : Int) (h0 : 0 ≤ n) : bytesOf (itoaB n) = digs n.toNat := by
  unfold itoaB
  rw [bytes_mk]
  unfold Lib.itoa
  rw [if_neg (by omega)]
  exact decDigits_digs _
theorem itoa_size (n : Int) (h0 : 0 ≤ n) (h1 : n ≤ 1000000000) : (itoaB n).size ≤ 10 := by
  rw [← bytesOf_length, itoa_bytes n h0]; exact digs_len10 _ (by omega)
def partB (r : S32) : ByteArray := if r.f0 < r.f1 then itoaB r.f0 ++ ((⟨#[46, 46]⟩ : ByteArray) ++ itoaB r.f1) else itoaB r.f0
theorem part_bytes (r : S32) (h : Pure.Good r) : bytesOf (partB r) = runText r := by
  obtain ⟨h1, h2, h3⟩ := h
  unfold partB runText
  by_cases hc : r.f0 < r.f1
  · rw [if_pos hc, if_pos hc, bytesOf_append, bytesOf_append, itoa_bytes _ (by omega), itoa_bytes _ (by omega)]; rfl
  · rw [if_neg hc, if_neg hc, itoa_bytes _ (by omega), List.append_nil]
theorem ints_append (a b : List UInt8) : ints (a ++ b) = ints a ++ ints b := by simp [ints]
theorem join_ints : ∀ ps : List (List UInt8), ints (Lib.join ps [44]) = joinL (ps.map ints)
  | [] => rfl
  | [p] => by simp [Lib.join, joinL]
  | p :: q :: r => by
    have ih := join_ints (q :: r)
    have e : Lib.join (p :: q :: r) [44] = p ++ ([44] ++ Lib.join (q :: r) [44]) := by simp [Lib.join]
    rw [e, ints_append, ints_append, ih]
    rfl
def showB (ps : List ByteArray) : ByteArray := if ps = [] then ⟨#[110, 111, 110, 101]⟩ else ⟨(Lib.join (ps.map (·.data.toList)) [44]).toArray⟩
theorem show_bytes (n : List S32) (hg : ∀ r ∈ n, Pure.Good r) : bytesOf (showB (n.map partB)) = showL n := by
  unfold showB showL
  by_cases h : n = []
  · subst h; rfl
  · rw [if_neg (by simpa using h), if_neg h, bytes_mk, join_ints, List.map_map, List.map_map]
    unfold txt
    congr 1
    exact List.map_congr_left fun r hr => part_bytes r (hg r hr)
theorem joinL_len : ∀ ps : List (List Int), (∀ p ∈ ps, p.length ≤ 22) → (joinL ps).length ≤ 23 * ps.length
  | [], _ => by simp [joinL]
  | [p], h => by have := h p (by simp); simp [joinL]; omega
  | p :: q :: r, h => by
    have := h p (by simp)
    have ih := joinL_len (q :: r) (fun x hx => h x (by simp [hx]))
    simp [joinL] at ih ⊢
    omega
theorem txt_len (n : List S32) (hg : ∀ r ∈ n, Pure.Good r) : (txt n).length ≤ 23 * n.length := by
  have := joinL_len (n.map runText) (fun p hp => by
    obtain ⟨r, hr, rfl⟩ := List.mem_map.1 hp
    exact runText_len r (hg r hr))
  rw [List.length_map] at this
  exact this
theorem joinF (n : List S32) (hg : ∀ r ∈ n, Pure.Good r) (hne : n ≠ []) (hl : n.length ≤ 1000000000) : strings_Join.f (n.map partB) (⟨#[44]⟩ : ByteArray) = some (showB (n.map partB)) := by
  have e : (Lib.join ((n.map partB).map (·.data.toList)) (⟨#[44]⟩ : ByteArray).data.toList).length = (txt n).length := by
    have h1 := congrArg List.length (show_bytes n hg)
    unfold showB showL at h1
    rw [if_neg (by simpa using hne), if_neg hne, bytes_mk, ints, List.length_map] at h1
    exact h1
  have := txt_len n hg
  unfold strings_Join.f
  rw [if_pos ⟨by simp; omega, by rw [e]; omega⟩]
  unfold showB
  rw [if_neg (by simpa using hne)]
theorem show_l0 (row : List S32) (hr : row.length ≤ 1000000000) (hg : ∀ r ∈ row, Pure.Good r) (pre suf : List S32) (hp : row = pre ++ suf) :
    Ev (fun k => span_Show.l0 k (pre.map partB) row (row.length : Int) (pre.length : Int)) (showB (row.map partB)) := by
  induction suf generalizing pre with
  | nil =>
    rw [List.append_nil] at hp
    subst hp
    refine Ev.step (f := fun _ => some (showB (row.map partB))) (fun k => ?_) (Ev.now _)
    simp only [span_Show.l0]
    rw [if_neg (by omega)]
    by_cases h : row = []
    · subst h; rfl
    · rw [if_neg (by
        have := List.length_pos_iff.2 h
        simp; exact h), joinF row hg h hr]
      rfl
  | cons r t ih =>
    have hgr := hg r (by rw [hp]; simp)
    obtain ⟨g1, g2, g3⟩ := hgr
    have hl : row.length = pre.length + (t.length + 1) := by rw [hp]; simp
    have hlt : (pre.length : Int) < (row.length : Int) := by omega
    have hget : rd_T32 row (pre.length : Int) = r := by rw [hp]; exact rdT pre t r
    have e1 : wrap64 ((pre.length : Int) + 1) = ((pre ++ [r]).length : Int) := by rw [w64_nat _ (by omega)]; simp
    have hI := ih (pre ++ [r]) (by rw [hp]; simp)
    rw [List.map_append, List.map_cons, List.map_nil] at hI
    have z0 := itoa_size r.f0 (by omega) (by omega)
    have z1 := itoa_size r.f1 (by omega) (by omega)
    have hz : ((⟨#[46, 46]⟩ : ByteArray) ++ itoaB r.f1).size = 2 + (itoaB r.f1).size := by rw [ByteArray.size_append]; rfl
    refine Ev.step (fun k => ?_) hI
    simp only [span_Show.l0]
    rw [if_pos hlt, if_pos (by omega), if_pos hlt, hget, itoa_f _ (by omega) (by omega), Option.bind_some]
    by_cases hc : r.f0 < r.f1
    · have e2 : partB r = itoaB r.f0 ++ ((⟨#[46, 46]⟩ : ByteArray) ++ itoaB r.f1) := by unfold partB; rw [if_pos hc]
      rw [if_pos hc, itoa_f _ (by omega) (by omega), Option.bind_some, if_pos (by omega), if_pos (by rw [hz]; omega), if_pos (by simp; omega), e1, e2]
    · have e2 : partB r = itoaB r.f0 := by unfold partB; rw [if_neg hc]
      rw [if_neg (by omega), if_pos (by simp; omega), e1, e2]
theorem show_ev (l : List S32) (h : Fit l) : Ev (fun k => span_Show.f k l) (showB ((canon l).map partB)) := by
  have hc := canon_norm' l
  have hl := hc.len
  unfold span_Show.f
  refine Ev.bind (norm_ev l h) ?_
  exact show_l0 (canon l) (by omega) (NormFrom.good (by omega) hc) [] (canon l) rfl
theorem show_canon (l : List S32) : bytesOf (showB ((canon l).map partB)) = showL (canon l) := show_bytes _ (NormFrom.good (by omega) (canon_norm' l))
theorem same_str {s t : ByteArray} (h : bytesOf s = bytesOf t) : s.toList = t.toList := by
  rw [ByteArray.toList_eq, ByteArray.toList_eq]
  exact ints_inj _ _ (by rw [← bytes_ints, ← bytes_ints, h])
theorem norm_of {l : List S32} (h : normB (-1) l = true) : Norm l := (normB_iff l (-1)).1 h
end Go.Proofs.YtlmdcpooogaolaaDoor.Txt

/- SpanShows: Show agrees with the document's. For every list of at most 349525 runs. -/
namespace Go.Proofs.YtlmdcpooogaolaaDoor.Pure
open Go.RowKit Go.Proofs.YtlmdcpooogaolaaDoor.G Go.Proofs.YtlmdcpooogaolaaDoor.Txt Go.Proofs.YtlmdcpooogaolaaDoorW.PrintWords Go.Proofs.YtlmdcpooogaolaaDoorW.PrintLast
set_option linter.unusedVariables false
theorem shows_ex : (showB ((canon [⟨3, 3⟩, ⟨1, 1⟩, ⟨6, 9⟩]).map partB)).toList = [49, 44, 51, 44, 54, 46, 46, 57] := by
  have e : canon [⟨3, 3⟩, ⟨1, 1⟩, ⟨6, 9⟩] = [⟨1, 1⟩, ⟨3, 3⟩, ⟨6, 9⟩] :=
    canon_of (Rep.self (norm_of (by decide))) _ (fun n => by simp [Mem]; omega)
  have h := show_canon [⟨3, 3⟩, ⟨1, 1⟩, ⟨6, 9⟩]
  rw [e] at h ⊢
  have h2 : bytesOf (showB ([(⟨1, 1⟩ : S32), ⟨3, 3⟩, ⟨6, 9⟩].map partB)) = bytesOf (⟨#[49, 44, 51, 44, 54, 46, 46, 57]⟩ : ByteArray) := by rw [h]; decide +kernel
  rw [same_str h2]
  decide +kernel
theorem SpanShows (l : List S32) (hl : l.length ≤ 349525) (hw : ∀ r ∈ l, (Lit.int .i64 r.f0).wf = true ∧ (Lit.int .i64 r.f1).wf = true) : ∃ k, barrowlaw01_SpanShows.f k l = some true := by
  refine Ev.rounds ?_
  unfold barrowlaw01_SpanShows.f
  have h1 := refShow_ev l (by omega)
  have h2 := show_ev l (by show l.length ≤ _; omega)
  have h0 := show_ev [⟨3, 3⟩, ⟨1, 1⟩, ⟨6, 9⟩] (by decide)
  refine Ev.bind h0 ?_
  refine ev_congr (f := fun k => (barrowref01_Show.f k l).bind fun t257 => (span_Show.f k l).bind fun t258 => some (t258.toList == t257.toList)) (fun k => by rw [if_pos shows_ex]) ?_
  refine Ev.bind h1 (Ev.bind h2 ?_)
  have e : (showB ((canon l).map partB)).toList = (strOfNums (showL (canon l))).toList :=
    same_str (by rw [show_canon, Dec.bytesOf_str _ (showL_range _)])
  rw [e]
  exact ev_congr (f := fun _ => some true) (fun _ => by simp) (Ev.now _)
end Go.Proofs.YtlmdcpooogaolaaDoor.Pure
