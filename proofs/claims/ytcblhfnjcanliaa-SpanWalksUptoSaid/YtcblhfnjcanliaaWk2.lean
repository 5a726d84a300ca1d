/- Ranges over the program's walk: the way out by a break and the way out at the end meet. -/
import Derived.Test.YtcblhfnjcanliaaWk0
namespace Go.Proofs.Ytcblhfnjcanliaa.G
open Go.RowKit Go.Proofs.YtcblhfnjcanliaaW.PrintWords Go.Proofs.YtcblhfnjcanliaaW.PrintLast Go.Proofs.YtcblhfnjcanliaaW.PrintMore
open Go.Proofs.Ytcblhfnjcanliaa.Pure
set_option linter.unusedVariables false
/-- How a round leaves: by its break, or (where what has come is none of the set's numbers) by a return. -/
def Lv (id : Nat) (l : List S24) (E : World → Prop) (c : Code) (pre : List Int) (W : World) : Prop := (c = .exit id ∧ (pre <+: numsOf l → E W)) ∨ (c = .ret ∧ ¬ pre <+: numsOf l)
theorem Lv.own {B id : Nat} {l : List S24} {E : World → Prop} (hE : OwnFrom B (fun (_ : Unit) W => E W)) (c : Code) : OwnFrom B (Lv id l E c) := fun s W W' row hs hg hr => by
  rcases hs with ⟨h1, h2⟩ | h
  · exact .inl ⟨h1, fun hp => hE () W W' row (h2 hp) hg hr⟩
  · exact .inr h
theorem rangeF {g : Operand} {ps : Array Tmp} {assign body : Code} {Q : Exit → Act → World → Prop} {a : Act} {w : World} {b B : Nat} {A : Option Addr} {c : Nat} {l : List S24}
    (hg : a.eval g = .func (.func 8) #[] #[.pointer (some ⟨B, 0, none⟩)]) (hps : ps.size = 1) (hW : Wr w b B A c l) (id : Nat) (hQ : ∀ a W, Q .normal a W → Q (.exit id) a W)
    (I : List Int → World → Prop) (E : World → Prop) (hI : OwnFrom w.heap.size I) (hE : OwnFrom w.heap.size (fun (_ : Unit) W => E W)) (h0 : I [] w) (a₁ : Int → Act)
    (hassign : ∀ (l : Nat) (x : Int) (W : World) (K : Act → World → Prop), K (a₁ x) W →
      assign.wpIn (Fence.wide.inRound l) (9 - 1 - 1) Try.prog (Exit.then K (fun _ _ _ => False)) { tmps := (ps.zip #[.int .i64 x]).foldl (fun t (p, v) => t.setIfInBounds p v) a.tmps, defers := [] } W)
    (hbody : ∀ (lp : Nat) (pre : List Int) (x : Int) (W : World), I pre W → body.wpIn (Fence.wide.inRound lp) (9 - 1 - 1) Try.prog (ownPostK (KpC b) I (Lv id l E) (pre ++ [x]) W) (a₁ x) W)
    (hdone : ∀ W, I (numsOf l) W → E W)
    (hend : ∀ (D : Nat) (W : World), w.heap.size ≤ D → E W → W.heap[D]? = some (.deferred (some [])) → Q .normal { a with defers := { target := .collected D, args := #[] } :: a.defers } W) :
    (Code.rangeFunc g ps assign body).wp Try.prog Q a w := by
  refine (wpIn_wide (n := 9)).1 ?_
  refine wpIn_rangeFunc_ownF rfl (by omega) (gf := 8) (lb := #[.pointer (some ⟨B, 0, none⟩)]) hg trivial (enters_of Try.func8 (by kernel_rfl) rfl)
    (walk_stops Fence.wide 8 trivial rfl (by omega) hW) (fun h k => h.trans k) (fun W l o o' _ hl ho _ => KpC.put _ W l o o' hl ho) (Below.refl _ _) (fun _ => hps.symm ▸ rfl)
    I (Lv id l E) hI (fun c => Lv.own hE c) h0 a₁ hassign (fun lp pre x W hi _ => hbody lp pre x W hi) ?_ ?_
  · rintro D xs W hD rfl hi hK
    exact hend D W hD (hdone W hi) hK
  · rintro D c pre W hD hsp hx hK
    rcases hx with ⟨rfl, h⟩ | ⟨rfl, h⟩
    · exact wpIn_exit (hQ _ _ (hend D W hD (h hsp) hK))
    · exact absurd hsp h
/-- Within the round of another. -/
theorem rangeN {l₀ : Nat} {r₀ : Loop} {g : Operand} {ps : Array Tmp} {assign body : Code} {Q : Exit → Act → World → Prop} {a : Act} {w : World} {b B : Nat} {A : Option Addr} {c : Nat} {l : List S24}
    (hl₀ : w.heap[l₀]? = some (.loop r₀))
    (hg : a.eval g = .func (.func 8) #[] #[.pointer (some ⟨B, 0, none⟩)]) (hps : ps.size = 1) (hW : Wr w b B A c l) (id : Nat) (hQ : ∀ a W, Q .normal a W → Q (.exit id) a W)
    (I : List Int → World → Prop) (E : World → Prop) (hI : OwnFrom w.heap.size I) (hE : OwnFrom w.heap.size (fun (_ : Unit) W => E W)) (h0 : I [] w) (a₁ : Int → Act)
    (hassign : ∀ (l : Nat) (x : Int) (W : World) (K : Act → World → Prop), K (a₁ x) W →
      assign.wpIn ((Fence.wide.inRound l₀).inRound l) (7 - 1 - 1) Try.prog (Exit.then K (fun _ _ _ => False)) { tmps := (ps.zip #[.int .i64 x]).foldl (fun t (p, v) => t.setIfInBounds p v) a.tmps, defers := [] } W)
    (hbody : ∀ (lp : Nat) (pre : List Int) (x : Int) (W : World), I pre W → body.wpIn ((Fence.wide.inRound l₀).inRound lp) (7 - 1 - 1) Try.prog (ownPostG w.heap.size (KpC b) I (Lv id l E) (pre ++ [x]) W) (a₁ x) W)
    (hdone : ∀ W, I (numsOf l) W → E W)
    (hend : ∀ (W : World), E W → Q .normal a W) :
    (Code.rangeFunc g ps assign body).wpIn (Fence.wide.inRound l₀) 7 Try.prog Q a w := by
  refine wpIn_rangeFunc_ownN (l₀ := l₀) (r₀ := r₀) rfl hl₀ (by omega) (gf := 8) (lb := #[.pointer (some ⟨B, 0, none⟩)]) hg trivial (enters_of Try.func8 (by kernel_rfl) rfl)
    ((walk_stops Fence.wide 6 trivial rfl (by omega) hW).inRound l₀) (fun h k => h.trans k) (fun W l o o' _ hl ho _ => KpC.put _ W l o o' hl ho) (Below.refl _ _) (fun _ => hps.symm ▸ rfl)
    I (Lv id l E) hI (fun c => Lv.own hE c) h0 (fun x a' _ => a' = a₁ x) (fun _ _ _ _ _ _ hs _ _ => hs) (fun lp pre x W K hi hK => hassign lp x W K (hK _ _ (KeepsFrom.refl _ _) (KpC.refl _ _) hi rfl)) (fun lp pre x a' W _ _ hi e _ => by subst e; exact hbody lp pre x W hi) ?_ ?_
  · rintro xs W rfl hi
    exact hend W (hdone W hi)
  · rintro c pre W hsp hx
    rcases hx with ⟨rfl, h⟩ | ⟨rfl, h⟩
    · exact wpIn_exit (hQ _ _ (hend W (h hsp)))
    · exact absurd hsp h
/-- Whose body holds another. -/
theorem rangeG {g : Operand} {ps : Array Tmp} {assign body : Code} {Q : Exit → Act → World → Prop} {a : Act} {w : World} {b B : Nat} {A : Option Addr} {c : Nat} {l : List S24}
    (hg : a.eval g = .func (.func 8) #[] #[.pointer (some ⟨B, 0, none⟩)]) (hps : ps.size = 1) (hW : Wr w b B A c l) (id : Nat) (hQ : ∀ a W, Q .normal a W → Q (.exit id) a W)
    (I : List Int → World → Prop) (E : World → Prop) (hI : OwnFrom w.heap.size I) (hE : OwnFrom w.heap.size (fun (_ : Unit) W => E W)) (h0 : I [] w) (a₁ : Int → Act)
    (hassign : ∀ (l : Nat) (x : Int) (W : World) (K : Act → World → Prop), K (a₁ x) W →
      assign.wpIn (Fence.wide.inRound l) (9 - 1 - 1) Try.prog (Exit.then K (fun _ _ _ => False)) { tmps := (ps.zip #[.int .i64 x]).foldl (fun t (p, v) => t.setIfInBounds p v) a.tmps, defers := [] } W)
    (hbody : ∀ (lp : Nat) (pre : List Int) (x : Int) (W : World), w.heap.size ≤ lp → (∃ r, W.heap[lp]? = some (.loop r)) → I pre W → body.wpIn (Fence.wide.inRound lp) (9 - 1 - 1) Try.prog (ownPostG w.heap.size (KpC b) I (Lv id l E) (pre ++ [x]) W) (a₁ x) W)
    (hdone : ∀ W, I (numsOf l) W → E W)
    (hend : ∀ (D : Nat) (W : World), w.heap.size ≤ D → E W → W.heap[D]? = some (.deferred (some [])) → Q .normal { a with defers := { target := .collected D, args := #[] } :: a.defers } W) :
    (Code.rangeFunc g ps assign body).wp Try.prog Q a w := by
  refine (wpIn_wide (n := 9)).1 ?_
  refine wpIn_rangeFunc_ownH rfl (by omega) (gf := 8) (lb := #[.pointer (some ⟨B, 0, none⟩)]) hg trivial (enters_of Try.func8 (by kernel_rfl) rfl)
    (walk_stops Fence.wide 8 trivial rfl (by omega) hW) (fun h k => h.trans k) (fun W l o o' _ hl ho _ => KpC.put _ W l o o' hl ho) (Below.refl _ _) (fun _ => hps.symm ▸ rfl)
    I (Lv id l E) hI (fun c => Lv.own hE c) h0 (fun x a' _ => a' = a₁ x) (fun _ _ _ _ _ _ hs _ _ => hs) (fun lp pre x W K hi hK => hassign lp x W K (hK _ _ (KeepsFrom.refl _ _) (KpC.refl _ _) hi rfl)) (fun lp pre x a' W h1 h2 hi e _ => by subst e; exact hbody lp pre x W h1 h2 hi) ?_ ?_
  · rintro D xs W hD rfl hi hK
    exact hend D W hD (hdone W hi) hK
  · rintro D c pre W hD hsp hx hK
    rcases hx with ⟨rfl, h⟩ | ⟨rfl, h⟩
    · exact wpIn_exit (hQ _ _ (hend D W hD (h hsp) hK))
    · exact absurd hsp h
/-- The loops' blocks of deferred calls, none of which holds one. -/
def Marks (n : Nat) (ds : List Nat) (W : World) : Prop := ∀ D ∈ ds, n ≤ D ∧ W.heap[D]? = some (.deferred (some []))
theorem Marks.grown {n : Nat} {ds : List Nat} {W W' : World} {row : Option Nat} (h : Marks n ds W) (hg : W.grownBy W' row) (hr : ∀ r, row = some r → r ∉ ds) : Marks n ds W' := fun D hD =>
  ⟨(h D hD).1, (hg.block D (Array.getElem?_eq_some_iff.1 (h D hD).2).1 (fun e => hr D e.symm hD)).trans (h D hD).2⟩
end Go.Proofs.Ytcblhfnjcanliaa.G
