/- RfG in plain Lean. -/
import Derived.Test.YteldhpneegccjaaAl2
import Derived.Test.YteldhpneegccjaaSw3
import Derived.Test.YteldhpneegccjaaGx30
namespace Go.Proofs.Yteldhpneegccjaa.Pure
open Go.RowKit Go.Proofs.Yteldhpneegccjaa.G Go.Proofs.YteldhpneegccjaaW.PrintWords Go.Proofs.YteldhpneegccjaaW.PrintLast Go.Proofs.YteldhpneegccjaaW.PrintMore
set_option linter.unusedVariables false

/-- The least number of the set from n on; 0 where there is none. -/
def FirstOf (P : Int → Prop) (n v : Int) : Prop := (v = 0 ∧ ∀ q, P q → q < n) ∨ (P v ∧ n ≤ v ∧ ∀ q, P q → n ≤ q → v ≤ q)
theorem FirstOf.unique {P : Int → Prop} (hP : ∀ q, P q → 1 ≤ q) {n v u : Int} (h : FirstOf P n v) (g : FirstOf P n u) : v = u := by
  rcases h with ⟨rfl, h⟩ | ⟨h1, h2, h3⟩ <;> rcases g with ⟨rfl, g⟩ | ⟨g1, g2, g3⟩
  · rfl
  · have := h u g1; omega
  · have := g v h1; omega
  · have := h3 u g1 g2; have := g3 v h1 h2; omega
theorem FirstOf.congr {P Q : Int → Prop} {n v : Int} (h : FirstOf P n v) (e : ∀ q, P q ↔ Q q) : FirstOf Q n v := by
  rcases h with ⟨h1, h⟩ | ⟨h1, h2, h3⟩
  · exact .inl ⟨h1, fun q hq => h q ((e q).2 hq)⟩
  · exact .inr ⟨(e v).1 h1, h2, fun q hq => h3 q ((e q).2 hq)⟩
theorem refFirst_l0 (n : Int) (row : List S26) (hr : row.length < 8796093022208) (pre suf : List S26) (hp : row = pre ++ suf) : ∀ (v : Int), FirstOf (Mem pre) n v →
    ∃ u, Ev (fun k => barrowref01_First.l0 k row n v (pre.length : Int)) u ∧ FirstOf (Mem row) n u := by
  induction suf generalizing pre with
  | nil =>
    intro v hv
    rw [List.append_nil] at hp
    refine ⟨v, Ev.step (f := fun _ => some v) (fun k => ?_) (Ev.now _), by rw [hp]; exact hv⟩
    rw [barrowref01_First.l0, if_neg (by rw [hp]; omega)]
  | cons r t ih =>
    intro v hv
    have e1 : wrap64 ((pre.length : Int) + 1) = ((pre ++ [r]).length : Int) := by rw [w64_nat _ (by rw [hp] at hr; simp at hr; omega)]; simp
    have hlt : (pre.length : Int) < (row.length : Int) := by rw [hp]; simp; omega
    have hget : rd_T26 row (pre.length : Int) = r := by rw [hp]; exact rdT pre t r
    have hI := ih (pre ++ [r]) (by rw [hp]; simp)
    obtain ⟨lo, hlo⟩ : ∃ lo, lo = (if (if r.f0 < 1 then 1 else r.f0) < n then n else (if r.f0 < 1 then 1 else r.f0)) := ⟨_, rfl⟩
    obtain ⟨hi, hhi⟩ : ∃ hi, hi = (if r.f1 > 1000000000 then 1000000000 else r.f1) := ⟨_, rfl⟩
    have hlo1 : 1 ≤ lo ∧ n ≤ lo ∧ r.f0 ≤ lo := by rw [hlo]; split <;> split <;> omega
    have hlo2 : ∀ q, 1 ≤ q → n ≤ q → r.f0 ≤ q → lo ≤ q := by intro q h1 h2 h3; rw [hlo]; split <;> split <;> omega
    have hhi1 : hi ≤ 1000000000 ∧ hi ≤ r.f1 := by rw [hhi]; split <;> omega
    have hhi2 : ∀ q, q ≤ 1000000000 → q ≤ r.f1 → q ≤ hi := by intro q h1 h2; rw [hhi]; split <;> omega
    -- what the three steps come to
    have steps : ∀ {v' u : Int}, v' = (if lo ≤ hi then (if v = 0 then lo else if lo < v then lo else v) else v) → Ev (fun k => barrowref01_First.l0 k row n v' ((pre ++ [r]).length : Int)) u → Ev (fun k => barrowref01_First.l0 k row n v (pre.length : Int)) u := by
      intro v' u hv' h
      refine Ev.step (f := fun k => barrowref01_First.j1 k row n v (pre.length : Int) (if r.f0 < 1 then 1 else r.f0) r.f1) (fun k => ?_) (Ev.step (f := fun k => barrowref01_First.j2 k row n v (pre.length : Int) lo r.f1) (fun k => ?_) (Ev.step (fun k => ?_) h))
      · rw [barrowref01_First.l0, if_pos hlt, if_pos (by omega), hget]
        split <;> rfl
      · rw [barrowref01_First.j1, hlo]
        generalize (if r.f0 < 1 then 1 else r.f0) = z
        split <;> rfl
      · rw [barrowref01_First.j2, e1]
        by_cases c1 : r.f1 > 1000000000
        · rw [if_pos c1] at hhi ⊢
          by_cases c2 : lo ≤ 1000000000
          · rw [if_pos (by omega)] at hv'
            rw [if_pos c2, hv']
            split
            · rfl
            · split <;> rfl
          · rw [if_neg (by omega)] at hv'
            rw [if_neg c2, hv']
        · rw [if_neg c1] at hhi ⊢
          by_cases c2 : lo ≤ r.f1
          · rw [if_pos (by omega)] at hv'
            rw [if_pos c2, hv']
            split
            · rfl
            · split <;> rfl
          · rw [if_neg (by omega)] at hv'
            rw [if_neg c2, hv']
    have hF : FirstOf (Mem (pre ++ [r])) n (if lo ≤ hi then (if v = 0 then lo else if lo < v then lo else v) else v) := by
      have hm : ∀ q, Mem (pre ++ [r]) q ↔ Mem pre q ∨ (1 ≤ q ∧ q ≤ 1000000000 ∧ r.f0 ≤ q ∧ q ≤ r.f1) := fun q => mem_snoc pre r q
      by_cases c : lo ≤ hi
      · rw [if_pos c]
        have hmlo : Mem (pre ++ [r]) lo := (hm lo).2 (.inr ⟨by omega, by omega, by omega, by omega⟩)
        rcases hv with ⟨rfl, hv⟩ | ⟨v1, v2, v3⟩
        · rw [if_pos rfl]
          refine .inr ⟨hmlo, by omega, fun q hq hnq => ?_⟩
          rcases (hm q).1 hq with h | ⟨h1, h2, h3, h4⟩
          · have := hv q h; omega
          · exact hlo2 q h1 hnq h3
        · have := v1.1
          rw [if_neg (by omega)]
          by_cases c2 : lo < v
          · rw [if_pos c2]
            refine .inr ⟨hmlo, by omega, fun q hq hnq => ?_⟩
            rcases (hm q).1 hq with h | ⟨h1, h2, h3, h4⟩
            · have := v3 q h hnq; omega
            · exact hlo2 q h1 hnq h3
          · rw [if_neg c2]
            refine .inr ⟨(hm v).2 (.inl v1), v2, fun q hq hnq => ?_⟩
            rcases (hm q).1 hq with h | ⟨h1, h2, h3, h4⟩
            · exact v3 q h hnq
            · have := hlo2 q h1 hnq h3; omega
      · rw [if_neg c]
        rcases hv with ⟨rfl, hv⟩ | ⟨v1, v2, v3⟩
        · refine .inl ⟨rfl, fun q hq => ?_⟩
          rcases (hm q).1 hq with h | ⟨h1, h2, h3, h4⟩
          · exact hv q h
          · rcases Int.lt_or_le q n with h5 | h5
            · exact h5
            · have := hlo2 q h1 h5 h3; have := hhi2 q h2 h4; omega
        · refine .inr ⟨(hm v).2 (.inl v1), v2, fun q hq hnq => ?_⟩
          rcases (hm q).1 hq with h | ⟨h1, h2, h3, h4⟩
          · exact v3 q h hnq
          · have := hlo2 q h1 hnq h3; have := hhi2 q h2 h4; omega
    obtain ⟨u, hu, hFu⟩ := hI _ hF
    exact ⟨u, steps rfl hu, hFu⟩
theorem refFirst_ev (l : List S26) (n : Int) (h : l.length < 8796093022208) : ∃ u, Ev (fun k => barrowref01_First.f k l n) u ∧ FirstOf (Mem l) n u := by
  unfold barrowref01_First.f
  exact refFirst_l0 n l h [] l rfl 0 (.inl ⟨rfl, fun q hq => absurd hq (mem_nil q)⟩)
/-- The numbers that are not in the set. -/
def Hole (l : List S26) (q : Int) : Prop := 1 ≤ q ∧ q ≤ 1000000000 ∧ ¬ Mem l q
theorem refGap_ev (l : List S26) (n : Int) (h : l.length ≤ 349525) : ∃ u, Ev (fun k => barrowref01_Gap.f k l n) u ∧ FirstOf (fun q => Hole l q ∧ n ≤ q) 1 u := by
  obtain ⟨M, hM, rM, lM⟩ := sweep_minus [⟨n, 1000000000⟩] l (by simp; omega)
  have hml := rM.1.len
  obtain ⟨u, hu, hF⟩ := refFirst_ev M 1 (by omega)
  refine ⟨u, ?_, hF.congr (fun q => ?_)⟩
  · unfold barrowref01_Gap.f barrowref01_one.f barrowref01_Minus.f
    simp only [Option.bind_some]
    exact Ev.bind (Ev.bind hM (Ev.now _)) (Ev.bind hu (Ev.now _))
  · rw [(show Mem M q ↔ Mem [⟨n, 1000000000⟩] q ∧ ¬ Mem l q from rM.2 q), mem_cons]
    simp only [mem_nil, or_false]
    unfold Hole
    constructor
    · rintro ⟨⟨a, b, c, d⟩, e⟩; exact ⟨⟨a, b, e⟩, c⟩
    · rintro ⟨⟨a, b, e⟩, c⟩; exact ⟨⟨a, b, c, b⟩, e⟩
theorem gap_of (g : Int) {u : Int} {l : List S26} (hg : 1 ≤ g) (h : FirstOf (fun q => Hole l q ∧ g ≤ q) 1 u) : u = 0 ∨ (g ≤ u ∧ Hole l u) := by
  rcases h with ⟨h, _⟩ | ⟨h1, _, _⟩
  · exact .inl h
  · exact .inr ⟨h1.2, h1.1⟩
theorem hole_canon (l : List S26) (q : Int) : Hole (canon l) q ↔ Hole l q := by unfold Hole; rw [canon_mem]
end Go.Proofs.Yteldhpneegccjaa.Pure
