/- What printed span functions answer: Split, Lead. -/
import Derived.Test.YteldhpneegccjaaAl2
import Derived.Test.YteldhpneegccjaaGx27
import Derived.Test.YteldhpneegccjaaGx33
namespace Go.Proofs.Yteldhpneegccjaa.Pure
open Go.RowKit Go.Proofs.Yteldhpneegccjaa.G Go.Proofs.YteldhpneegccjaaW.PrintWords Go.Proofs.YteldhpneegccjaaW.PrintLast Go.Proofs.YteldhpneegccjaaW.PrintMore
set_option linter.unusedVariables false

theorem split_l0 (x : Int) (hx1 : -9223372036854775808 ≤ x) (hx2 : x < 9223372036854775808) (row : List S26) (hr : row.length < 8796093022208) (pre suf : List S26) (hp : row = pre ++ suf) : ∀ (o1 o2 : List S26) (last : Int), o1.length ≤ pre.length → o2.length ≤ pre.length → -1 ≤ last → NormFrom last suf →
    ∃ A B, Ev (fun k => span_Split.l0 k x o1 o2 row (row.length : Int) (pre.length : Int)) (o1 ++ A, o2 ++ B) ∧ NormFrom last A ∧ NormFrom last B ∧ (∀ n, Mem A n ↔ Mem suf n ∧ n < x) ∧ (∀ n, Mem B n ↔ Mem suf n ∧ x ≤ n) := by
  induction suf generalizing pre with
  | nil =>
    intro o1 o2 last _ _ _ _
    refine ⟨[], [], Ev.step (f := fun _ => some (o1 ++ [], o2 ++ [])) (fun k => ?_) (Ev.now _), trivial, trivial, fun n => by simp [mem_nil], fun n => by simp [mem_nil]⟩
    simp only [span_Split.l0]
    rw [if_neg (by rw [hp]; simp)]
    simp
  | cons r t ih =>
    intro o1 o2 last h1 h2 hl hn
    obtain ⟨n1, n2, n3, n4⟩ := hn
    have e1 : wrap64 ((pre.length : Int) + 1) = ((pre ++ [r]).length : Int) := by rw [w64_nat _ (by rw [hp] at hr; simp at hr; omega)]; simp
    have hlt : (pre.length : Int) < (row.length : Int) := by rw [hp]; simp; omega
    have hget : rd_T26 row (pre.length : Int) = r := by rw [hp]; exact rdT pre t r
    have hol : pre.length < 8796093022208 := by rw [hp] at hr; simp at hr; omega
    have em : mn r.f1 (x - 1) = if x - 1 < r.f1 then x - 1 else r.f1 := rfl
    have ex : mx r.f0 x = if r.f0 < x then x else r.f0 := rfl
    by_cases c1 : r.f0 < x
    · have hw : wrap64 (x - 1) = x - 1 := w64 (by omega) (by omega)
      by_cases c2 : r.f1 ≥ x
      · obtain ⟨A, B, hE, hA, hB, mA, mB⟩ := ih (pre ++ [r]) (by rw [hp]; simp) (o1 ++ [⟨r.f0, mn r.f1 (x - 1)⟩]) (o2 ++ [⟨mx r.f0 x, r.f1⟩]) r.f1 (by simp; omega) (by simp; omega) (by omega) n4
        have bA : mn r.f1 (x - 1) = x - 1 := by rw [em]; split <;> omega
        have bB : mx r.f0 x = x := by rw [ex]; rw [if_pos c1]
        refine ⟨⟨r.f0, mn r.f1 (x - 1)⟩ :: A, ⟨mx r.f0 x, r.f1⟩ :: B, Ev.step (fun k => ?_) (by rw [List.append_assoc, List.append_assoc] at hE; exact hE), ⟨n1, by simp only; omega, by simp only; omega, hA.mono (by simp only; omega)⟩, ⟨by simp only; omega, by simp only; omega, n3, hB⟩, fun n => ?_, fun n => ?_⟩
        · simp only [span_Split.l0]
          rw [if_pos hlt, if_pos (by omega), if_pos hlt, hget, if_pos c1, if_pos (by omega), hw, e1]
          simp only [Option.bind_some]
          rw [if_pos c2, if_pos (by omega)]
        · rw [mem_cons, mA, mem_cons, bA]
          simp only
          constructor
          · rintro (⟨a, b, c, d⟩ | ⟨a, b⟩)
            · exact ⟨.inl ⟨a, b, c, by omega⟩, by omega⟩
            · exact ⟨.inr a, b⟩
          · rintro ⟨⟨a, b, c, d⟩ | a, e⟩
            · exact .inl ⟨a, b, c, by omega⟩
            · exact .inr ⟨a, e⟩
        · rw [mem_cons, mB, mem_cons, bB]
          simp only
          constructor
          · rintro (⟨a, b, c, d⟩ | ⟨a, b⟩)
            · exact ⟨.inl ⟨a, b, by omega, d⟩, c⟩
            · exact ⟨.inr a, b⟩
          · rintro ⟨⟨a, b, c, d⟩ | a, e⟩
            · exact .inl ⟨a, b, e, d⟩
            · exact .inr ⟨a, e⟩
      · obtain ⟨A, B, hE, hA, hB, mA, mB⟩ := ih (pre ++ [r]) (by rw [hp]; simp) (o1 ++ [⟨r.f0, mn r.f1 (x - 1)⟩]) o2 r.f1 (by simp; omega) (by simp; omega) (by omega) n4
        have bA : mn r.f1 (x - 1) = r.f1 := by rw [em]; split <;> omega
        refine ⟨⟨r.f0, mn r.f1 (x - 1)⟩ :: A, B, Ev.step (fun k => ?_) (by rw [List.append_assoc] at hE; exact hE), ⟨n1, by simp only; omega, by simp only; omega, hA.mono (by simp only; omega)⟩, hB.mono (by omega), fun n => ?_, fun n => ?_⟩
        · simp only [span_Split.l0]
          rw [if_pos hlt, if_pos (by omega), if_pos hlt, hget, if_pos c1, if_pos (by omega), hw, e1]
          simp only [Option.bind_some]
          rw [if_neg c2]
        · rw [mem_cons, mA, mem_cons, bA]
          simp only
          constructor
          · rintro (⟨a, b, c, d⟩ | ⟨a, b⟩)
            · exact ⟨.inl ⟨a, b, c, by omega⟩, by omega⟩
            · exact ⟨.inr a, b⟩
          · rintro ⟨⟨a, b, c, d⟩ | a, e⟩
            · exact .inl ⟨a, b, c, by omega⟩
            · exact .inr ⟨a, e⟩
        · rw [mB, mem_cons]
          constructor
          · rintro ⟨a, b⟩; exact ⟨.inr a, b⟩
          · rintro ⟨⟨a, b, c, d⟩ | a, e⟩
            · omega
            · exact ⟨a, e⟩
    · have bB : mx r.f0 x = r.f0 := by rw [ex]; rw [if_neg c1]
      obtain ⟨A, B, hE, hA, hB, mA, mB⟩ := ih (pre ++ [r]) (by rw [hp]; simp) o1 (o2 ++ [⟨mx r.f0 x, r.f1⟩]) r.f1 (by simp; omega) (by simp; omega) (by omega) n4
      refine ⟨A, ⟨mx r.f0 x, r.f1⟩ :: B, Ev.step (fun k => ?_) (by rw [List.append_assoc] at hE; exact hE), hA.mono (by omega), ⟨by simp only; omega, by simp only; omega, n3, hB⟩, fun n => ?_, fun n => ?_⟩
      · simp only [span_Split.l0]
        rw [if_pos hlt, if_pos (by omega), if_pos hlt, hget, if_neg c1, if_pos (by omega), if_pos (by omega), e1]
      · rw [mA, mem_cons]
        constructor
        · rintro ⟨a, b⟩; exact ⟨.inr a, b⟩
        · rintro ⟨⟨a, b, c, d⟩ | a, e⟩
          · omega
          · exact ⟨a, e⟩
      · rw [mem_cons, mB, mem_cons, bB]
        simp only
        constructor
        · rintro (⟨a, b, c, d⟩ | ⟨a, b⟩)
          · exact ⟨.inl ⟨a, b, c, d⟩, by omega⟩
          · exact ⟨.inr a, b⟩
        · rintro ⟨⟨a, b, c, d⟩ | a, e⟩
          · exact .inl ⟨a, b, c, d⟩
          · exact .inr ⟨a, e⟩
theorem split_ev (l : List S26) (x : Int) (h : Fit l) (hx1 : -9223372036854775808 ≤ x) (hx2 : x < 9223372036854775808) : ∃ A B, Ev (fun k => span_Split.f k l x) (A, B) ∧ Rep A (fun n => Mem l n ∧ n < x) ∧ Rep B (fun n => Mem l n ∧ x ≤ n) := by
  have hN := canon_norm' l
  have hl := hN.len
  obtain ⟨A, B, hE, hA, hB, mA, mB⟩ := split_l0 x hx1 hx2 (canon l) (by omega) [] (canon l) rfl [] [] (-1) (by simp) (by simp) (by omega) hN
  refine ⟨A, B, ?_, ⟨hA, fun n => by rw [mA, canon_mem]⟩, ⟨hB, fun n => by rw [mB, canon_mem]⟩⟩
  unfold span_Split.f
  exact Ev.bind (norm_ev l h) hE
def leadL : List S26 → Int × List S26
  | [] => (0, [])
  | r :: t => if r.f0 = 1 then (r.f1, t) else (0, r :: t)
theorem lead_ev (l : List S26) (h : Fit l) : Ev (fun k => span_Lead.f k l) (leadL (canon l)) := by
  unfold span_Lead.f
  have hl := (canon_norm' l).len
  refine Ev.bind (norm_ev l h) ?_
  generalize canon l = L at hl ⊢
  cases L with
  | nil => exact Ev.now _
  | cons r t =>
    have e : rd_T26 (r :: t) 0 = r := rfl
    have hl' : ((r :: t).length : Int) ≠ 0 := by rw [List.length_cons]; omega
    simp only [if_neg hl', e, leadL]
    by_cases hc : r.f0 = 1
    · simp only [if_pos hc]
      have h1 : (1 : Int) ≤ ((r :: t).length : Int) := by omega
      have h0 : (0 : Int) < ((r :: t).length : Int) := by omega
      simp only [if_pos h0, if_pos h1]
      unfold api_Run_64.f
      rw [List.drop_one, List.tail_cons, if_pos (by rw [List.length_cons] at hl; omega)]
      exact Ev.now _
    · have h0 : (0 : Int) < ((r :: t).length : Int) := by omega
      simp only [if_neg hc, if_pos h0]
      exact Ev.now _
end Go.Proofs.Yteldhpneegccjaa.Pure
