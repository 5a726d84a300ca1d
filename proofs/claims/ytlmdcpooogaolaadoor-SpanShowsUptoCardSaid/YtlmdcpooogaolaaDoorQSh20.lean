import Derived.Test.YtlmdcpooogaolaaDoorQSh14
import Derived.Test.YtlmdcpooogaolaaDoorQSh19
import Derived.Test.YtlmdcpooogaolaaDoorQSh10
import Derived.Test.YtlmdcpooogaolaaDoorQSh9
import Derived.Test.YtlmdcpooogaolaaDoorQSh11
/- What span.Read answers, told of the text's bytes: pieces, strict runs. -/
namespace Go.Proofs.YtlmdcpooogaolaaDoor.Txt
open Go.RowKit Go.Proofs.YtlmdcpooogaolaaDoor.G Go.Proofs.YtlmdcpooogaolaaDoor.Dec Go.Proofs.YtlmdcpooogaolaaDoor.Pure Go.Proofs.YtlmdcpooogaolaaDoorW.PrintWords Go.Proofs.YtlmdcpooogaolaaDoorW.PrintLast
set_option linter.unusedVariables false
def ints (l : List UInt8) : List Int := l.map fun b => (b.toNat : Int)
theorem bytes_ints (s : ByteArray) : bytesOf s = ints s.data.toList := rfl
theorem bytes_mk (l : List UInt8) : bytesOf ⟨l.toArray⟩ = ints l := rfl
theorem u8_eq (a c : UInt8) : a = c ↔ ((a.toNat : Int) = (c.toNat : Int)) := by
  constructor
  · intro h; rw [h]
  · intro h; exact UInt8.toNat_inj.1 (by omega)
theorem ints_inj : ∀ a b : List UInt8, ints a = ints b → a = b
  | [], [], _ => rfl
  | [], _ :: _, h => by cases h
  | _ :: _, [], h => by cases h
  | x :: a, y :: b, h => by
    simp only [ints, List.map_cons, List.cons.injEq] at h
    rw [(u8_eq x y).2 h.1, ints_inj a b h.2]
theorem NormFrom.good {l : List S32} : ∀ {last : Int}, -1 ≤ last → NormFrom last l → ∀ r ∈ l, Pure.Good r := by
  induction l with
  | nil => intro _ _ _ r h; cases h
  | cons a t ih =>
    intro last hl h r hr
    obtain ⟨h1, h2, h3, h4⟩ := h
    rcases List.mem_cons.1 hr with rfl | hr
    · exact ⟨by omega, h2, h3⟩
    · exact ih (by omega) h4 r hr
end Go.Proofs.YtlmdcpooogaolaaDoor.Txt

/- The reference's numbers, pieces and texts. -/
namespace Go.Proofs.YtlmdcpooogaolaaDoor.Txt
open Go.RowKit Go.Proofs.YtlmdcpooogaolaaDoor.G Go.Proofs.YtlmdcpooogaolaaDoor.Dec Go.Proofs.YtlmdcpooogaolaaDoor.Pure Go.Proofs.YtlmdcpooogaolaaDoorW.PrintWords Go.Proofs.YtlmdcpooogaolaaDoorW.PrintLast
set_option linter.unusedVariables false
/-! ### A number -/
/-! ### A piece -/
end Go.Proofs.YtlmdcpooogaolaaDoor.Txt

/- The reference's texts of runs: its digits, its Show. -/
namespace Go.Proofs.YtlmdcpooogaolaaDoor.Txt
open Go.RowKit Go.Proofs.YtlmdcpooogaolaaDoor.G Go.Proofs.YtlmdcpooogaolaaDoor.Dec Go.Proofs.YtlmdcpooogaolaaDoor.Pure Go.Proofs.YtlmdcpooogaolaaDoorW.PrintWords Go.Proofs.YtlmdcpooogaolaaDoorW.PrintLast
set_option linter.unusedVariables false
theorem ev_congr {α : Type} {g f : Nat → Option α} {r : α} (h : ∀ k, g k = f k) (k : Ev f r) : Ev g r := by
  have : g = f := funext h
  rw [this]; exact k
theorem rd_mid (A T : List Int) (x : Int) : rd (A ++ x :: T) (A.length : Int) = x := by
  unfold rd
  rw [Int.toNat_natCast, List.getD_eq_getElem?_getD, List.getElem?_append_right (Nat.le_refl _), Nat.sub_self]
  rfl
theorem set_mid (A T : List Int) (x y : Int) : (A ++ x :: T).set A.length y = A ++ y :: T := by
  rw [List.set_append_right _ _ (Nat.le_refl _), Nat.sub_self]; rfl
/-- The swaps turn the middle round. -/
theorem refRev_ev : ∀ (m : Nat) (A M B : List Int), M.length = m → (A ++ M ++ B).length < 4611686018427387904 → ∀ i j : Int, i = A.length → j = (A.length : Int) + M.length - 1 →
    Ev (fun k => barrowref01_Digits.l1 k (A ++ M ++ B) i j) (A ++ M.reverse ++ B) := by
  intro m
  induction m using Nat.strongRecOn with
  | _ m ih =>
    intro A M B hm hlen i j hi hj
    by_cases h1 : M.length ≤ 1
    · have hr : M.reverse = M := by
        match M, h1 with
        | [], _ => rfl
        | [a], _ => rfl
        | a :: b :: t, h => simp at h
      rw [hr]
      refine Ev.step (f := fun _ => some (A ++ M ++ B)) (fun k => ?_) (Ev.now _)
      simp only [barrowref01_Digits.l1]
      rw [if_neg (by omega)]
    · obtain ⟨x, M1, rfl⟩ : ∃ x M1, M = x :: M1 := by
        cases M with
        | nil => simp at h1
        | cons x t => exact ⟨x, t, rfl⟩
      obtain ⟨M2, y, rfl⟩ : ∃ M2 y, M1 = M2 ++ [y] := by
        rcases List.eq_nil_or_concat M1 with h | ⟨q, b, h⟩
        · subst h; simp at h1
        · exact ⟨q, b, by simpa using h⟩
      simp at hm hlen hj
      have hih := ih M2.length (by omega) (A ++ [y]) M2 ([x] ++ B) rfl (by simp; omega) (i + 1) (j - 1) (by simp; omega) (by simp; omega)
      have e1 : A ++ (x :: (M2 ++ [y])) ++ B = A ++ x :: (M2 ++ y :: B) := by simp
      have e2 : A ++ x :: (M2 ++ y :: B) = (A ++ x :: M2) ++ y :: B := by simp
      have hj2 : j = ((A ++ x :: M2).length : Int) := by simp; omega
      have r1 : rd (A ++ x :: (M2 ++ y :: B)) i = x := by rw [hi]; exact rd_mid _ _ _
      have r2 : rd (A ++ x :: (M2 ++ y :: B)) j = y := by rw [e2, hj2]; exact rd_mid _ _ _
      have s1 : ((A ++ x :: (M2 ++ y :: B)).set i.toNat y).set j.toNat x = A ++ [y] ++ M2 ++ ([x] ++ B) := by
        have hi2 : i.toNat = A.length := by omega
        have hj3 : j.toNat = (A ++ y :: M2).length := by simp; omega
        rw [hi2, set_mid]
        have e3 : A ++ y :: (M2 ++ y :: B) = (A ++ y :: M2) ++ y :: B := by simp
        rw [e3, hj3, set_mid]
        simp
      have e4 : A ++ (x :: (M2 ++ [y])).reverse ++ B = A ++ [y] ++ M2.reverse ++ ([x] ++ B) := by simp
      rw [e1, e4]
      have hl : ((A ++ x :: (M2 ++ y :: B)).length : Int) = A.length + M2.length + 2 + B.length := by simp; omega
      refine Ev.step (fun k => ?_) hih
      simp only [barrowref01_Digits.l1]
      rw [if_pos (by omega), if_pos (by omega), if_pos (by omega), if_pos (by omega), if_pos (by omega), r1, r2, s1, w64 (by omega) (by omega), w64 (by omega) (by omega)]
theorem digs_step (n : Nat) : digs n = (if n / 10 = 0 then [] else digs (n / 10)) ++ [48 + ((n % 10 : Nat) : Int)] := by
  by_cases h : n = 0
  · subst h; rfl
  · have e : digs n = sdig n := by unfold digs; rw [if_neg h]
    rw [e, sdig_pos (by omega)]
    by_cases h1 : n / 10 = 0
    · rw [if_pos h1, h1, sdig_zero]
    · rw [if_neg h1]
      have e1 : digs (n / 10) = sdig (n / 10) := by unfold digs; rw [if_neg h1]
      rw [e1]
theorem refDigits_l0 : ∀ (n : Nat) (A R : List Int), A.length + R.length + (digs n).length < 70368744177700 → n ≤ 1000000000 →
    Ev (fun k => barrowref01_Digits.l0 k (A ++ R) n A.length) (A ++ (digs n ++ R.reverse)) := by
  intro n
  induction n using Nat.strongRecOn with
  | _ n ih =>
    intro A R hl hn
    have hb : (wrap64 (48 + Int.tmod n 10)) % 256 = 48 + ((n % 10 : Nat) : Int) := by
      have : Int.tmod (n : Int) 10 = ((n % 10 : Nat) : Int) := by rw [Int.tmod_eq_emod_of_nonneg (by omega)]; omega
      rw [this]; unfold wrap64; omega
    have hd : wrap64 (Int.tdiv n 10) = ((n / 10 : Nat) : Int) := by
      have : Int.tdiv (n : Int) 10 = ((n / 10 : Nat) : Int) := by rw [Int.tdiv_eq_ediv_of_nonneg (by omega)]; omega
      rw [this]; unfold wrap64; omega
    by_cases h0 : n / 10 = 0
    · have hr := refRev_ev _ A (R ++ [48 + ((n % 10 : Nat) : Int)]) [] rfl (by simp; omega) (A.length : Int) (wrap64 (((A ++ R ++ [48 + ((n % 10 : Nat) : Int)]).length : Int) - 1)) rfl (by
        rw [w64 (by simp; omega) (by simp; omega)]; first | (simp; done) | (simp; omega))
      have e : A ++ (R ++ [48 + ((n % 10 : Nat) : Int)]).reverse ++ [] = A ++ (digs n ++ R.reverse) := by
        rw [digs_step, if_pos h0]; simp
      rw [e] at hr
      refine Ev.step (fun k => ?_) hr
      simp only [barrowref01_Digits.l0]
      rw [if_pos (by simp; omega), Option.bind_some, hd, hb, if_pos (by omega)]
      simp
    · have hi := ih (n / 10) (by omega) A (R ++ [48 + ((n % 10 : Nat) : Int)]) (by
        have := congrArg List.length (digs_step n)
        rw [if_neg h0, List.length_append, List.length_singleton] at this
        rw [List.length_append, List.length_singleton]; omega) (by omega)
      have e : A ++ (digs (n / 10) ++ (R ++ [48 + ((n % 10 : Nat) : Int)]).reverse) = A ++ (digs n ++ R.reverse) := by
        rw [digs_step n, if_neg h0]; simp
      rw [e] at hi
      refine Ev.step (fun k => ?_) hi
      simp only [barrowref01_Digits.l0]
      rw [if_pos (by simp; omega), Option.bind_some, hd, hb, if_neg (by omega)]
      simp
theorem refDigits_ev (l : List Int) (n : Int) (h0 : 0 ≤ n) (h1 : n ≤ 1000000000) (hl : l.length < 70368744177664) : Ev (fun k => barrowref01_Digits.f k l n) (l ++ digs n.toNat) := by
  have h := refDigits_l0 n.toNat l [] (by have := digs_len10 n.toNat (by omega); simp; omega) (by omega)
  have e : ((n.toNat : Nat) : Int) = n := by omega
  unfold barrowref01_Digits.f
  simpa [e] using h
/-! ### Show -/
def tailT (l : List S32) : List Int := l.flatMap fun r => 44 :: runText r
theorem txt_cons (r : S32) (t : List S32) : txt (r :: t) = runText r ++ tailT t := by
  induction t generalizing r with
  | nil => simp [txt, joinL, tailT]
  | cons q u ih =>
    have := ih q
    unfold txt at this ⊢
    simp only [List.map_cons, joinL] at this ⊢
    rw [this]
    simp [tailT]
theorem runText_len (r : S32) (h : Pure.Good r) : (runText r).length ≤ 22 := by
  obtain ⟨h1, h2, h3⟩ := h
  have a := digs_len10 r.f0.toNat (by omega)
  have b := digs_len10 r.f1.toNat (by omega)
  unfold runText
  split <;> simp <;> omega
theorem refShow_l0 (row : List S32) (hr : row.length ≤ 1000000000) (pre suf : List S32) (hp : row = pre ++ suf) (hg : ∀ r ∈ suf, Pure.Good r) : ∀ (acc : List Int), acc.length ≤ 23 * pre.length →
    Ev (fun k => barrowref01_Show.l0 k row acc (pre.length : Int)) (strOfNums (acc ++ (if pre = [] then txt suf else tailT suf))) := by
  induction suf generalizing pre with
  | nil =>
    intro acc _
    have e : (if pre = [] then txt [] else tailT []) = [] := by split <;> rfl
    rw [e, List.append_nil]
    refine Ev.step (f := fun _ => some (strOfNums acc)) (fun k => ?_) (Ev.now _)
    simp only [barrowref01_Show.l0]
    rw [if_neg (by rw [hp]; simp)]
  | cons r t ih =>
    intro acc hacc
    have hgr := hg r (by simp)
    obtain ⟨g1, g2, g3⟩ := hgr
    have hlt : (pre.length : Int) < (row.length : Int) := by rw [hp]; simp; omega
    have hl : row.length = pre.length + (t.length + 1) := by rw [hp]; simp
    have hget : rd_T32 row (pre.length : Int) = r := by rw [hp]; exact rdT pre t r
    have e1 : wrap64 ((pre.length : Int) + 1) = ((pre ++ [r]).length : Int) := by rw [w64_nat _ (by omega)]; simp
    -- one run behind acc2
    have body : ∀ acc2 : List Int, acc2.length ≤ 23 * pre.length + 1 → Ev (fun k => barrowref01_Show.j1 k row acc2 (pre.length : Int)) (strOfNums (acc2 ++ runText r ++ tailT t)) := by
      intro acc2 h2
      have hlen := runText_len r ⟨g1, g2, g3⟩
      have hI := ih (pre ++ [r]) (by rw [hp]; simp) (fun x hx => hg x (by simp [hx])) (acc2 ++ runText r) (by simp; omega)
      rw [if_neg (by simp)] at hI
      have d0 := refDigits_ev acc2 r.f0 (by omega) (by omega) (by omega)
      by_cases hc : r.f0 < r.f1
      · have ert : runText r = digs r.f0.toNat ++ 46 :: 46 :: digs r.f1.toNat := by unfold runText; rw [if_pos hc]
        have hlen0 : (digs r.f0.toNat).length ≤ 10 := digs_len10 _ (by omega)
        have d1 := refDigits_ev (acc2 ++ digs r.f0.toNat ++ [46, 46]) r.f1 (by omega) (by omega) (by simp; omega)
        have e2 : acc2 ++ digs r.f0.toNat ++ [46, 46] ++ digs r.f1.toNat = acc2 ++ runText r := by rw [ert]; simp
        rw [e2] at d1
        have inner := d1.bind (f := fun (k : Nat) (x : List Int) => barrowref01_Show.l0 k row x ((pre ++ [r]).length : Int)) hI
        have all := d0.bind (f := fun (k : Nat) (x : List Int) => if x.length + ([46, 46] : List Int).length < 140737488355328 then (barrowref01_Digits.f k (x ++ [46, 46]) r.f1).bind fun y => barrowref01_Show.l0 k row y ((pre ++ [r]).length : Int) else none) (by
          refine ev_congr (fun k => ?_) inner
          rw [if_pos (by simp; omega)])
        refine Ev.step (fun k => ?_) all
        simp only [barrowref01_Show.j1, Option.bind_some]
        rw [if_pos (by omega), if_pos hlt, hget, e1]
        congr 1
        funext x
        rw [if_pos (by omega)]
      · have ert : runText r = digs r.f0.toNat := by unfold runText; rw [if_neg hc, List.append_nil]
        rw [ert] at hI ⊢
        have all := d0.bind (f := fun (k : Nat) (x : List Int) => barrowref01_Show.l0 k row x ((pre ++ [r]).length : Int)) hI
        refine Ev.step (fun k => ?_) all
        simp only [barrowref01_Show.j1]
        rw [if_pos (by omega), if_pos hlt, hget, e1]
        congr 1
        funext x
        rw [if_neg (by omega)]
    by_cases hpre : pre = []
    · subst hpre
      rw [if_pos rfl, txt_cons]
      have := body acc (by omega)
      rw [List.append_assoc] at this
      refine Ev.step (fun k => ?_) this
      simp only [barrowref01_Show.l0]
      rw [if_pos hlt, if_neg (by simp)]
    · rw [if_neg hpre]
      have hpos : 0 < pre.length := List.length_pos_iff.2 hpre
      have := body (acc ++ [44]) (by simp; omega)
      have e3 : acc ++ [44] ++ runText r ++ tailT t = acc ++ tailT (r :: t) := by simp [tailT]
      rw [e3] at this
      refine Ev.step (fun k => ?_) this
      simp only [barrowref01_Show.l0]
      rw [if_pos hlt, if_pos (by omega), if_pos (by omega)]
def showL (n : List S32) : List Int := if n = [] then [110, 111, 110, 101] else txt n
theorem refShow_ev (l : List S32) (h : l.length ≤ 2097152) : Ev (fun k => barrowref01_Show.f k l) (strOfNums (showL (canon l))) := by
  have hn := refNorm_ev l h
  have hc := canon_norm' l
  unfold barrowref01_Show.f
  refine Ev.bind hn ?_
  by_cases he : canon l = []
  · have e : strOfNums (showL (canon l)) = (⟨#[110, 111, 110, 101]⟩ : ByteArray) := by unfold showL; rw [if_pos he]; rfl
    rw [e]
    refine Ev.step (f := fun _ => some (⟨#[110, 111, 110, 101]⟩ : ByteArray)) (fun k => ?_) (Ev.now _)
    rw [if_pos (by rw [he]; rfl)]
  · have hl := hc.len
    have := refShow_l0 (canon l) (by omega) [] (canon l) rfl (NormFrom.good (by omega) hc) [] (by simp)
    rw [if_pos rfl, List.nil_append] at this
    have e : showL (canon l) = txt (canon l) := by unfold showL; rw [if_neg he]
    rw [e]
    refine ev_congr (fun k => ?_) this
    rw [if_neg (by
      have : 0 < (canon l).length := List.length_pos_iff.2 he
      omega)]
    rfl
end Go.Proofs.YtlmdcpooogaolaaDoor.Txt

/- The reference's Read: loose pieces, and the text held against what Show writes. -/
namespace Go.Proofs.YtlmdcpooogaolaaDoor.Txt
open Go.RowKit Go.Proofs.YtlmdcpooogaolaaDoor.G Go.Proofs.YtlmdcpooogaolaaDoor.Dec Go.Proofs.YtlmdcpooogaolaaDoor.Pure Go.Proofs.YtlmdcpooogaolaaDoorW.PrintWords Go.Proofs.YtlmdcpooogaolaaDoorW.PrintLast
set_option linter.unusedVariables false
theorem showL_range (n : List S32) : ∀ c ∈ showL n, 0 ≤ c ∧ c ≤ 255 := by
  have hd : ∀ m : Nat, ∀ c ∈ digs m, 0 ≤ c ∧ c ≤ 255 := fun m c hc => by have := digs_dig m c hc; omega
  have hr : ∀ r : S32, ∀ c ∈ runText r, 0 ≤ c ∧ c ≤ 255 := fun r c hc => by
    unfold runText at hc
    rcases List.mem_append.1 hc with h | h
    · exact hd _ c h
    · split at h
      · rcases List.mem_cons.1 h with h | h
        · omega
        · rcases List.mem_cons.1 h with h | h
          · omega
          · exact hd _ c h
      · cases h
  unfold showL
  split
  · intro c hc; simp at hc; omega
  · cases n with
    | nil => intro c hc; simp [txt, joinL] at hc
    | cons r t =>
      rw [txt_cons]
      intro c hc
      rcases List.mem_append.1 hc with h | h
      · exact hr r c h
      · obtain ⟨q, _, hq⟩ := List.mem_flatMap.1 h
        rcases List.mem_cons.1 hq with h | h
        · omega
        · exact hr q c h
end Go.Proofs.YtlmdcpooogaolaaDoor.Txt
