/- The reference's Read: loose pieces, and the text held against what Show writes. -/
import Derived.Test.YtlmdcpooogaolaaDoorRfS
namespace Go.Proofs.YtlmdcpooogaolaaDoor.Txt
open Go.RowKit Go.Proofs.YtlmdcpooogaolaaDoor.G Go.Proofs.YtlmdcpooogaolaaDoor.Dec Go.Proofs.YtlmdcpooogaolaaDoor.Pure Go.Proofs.YtlmdcpooogaolaaDoorW.PrintWords Go.Proofs.YtlmdcpooogaolaaDoorW.PrintLast
set_option linter.unusedVariables false
/-- What the reference makes of the pieces that are left. -/
def finR (b : List Int) : List S32 → List (List Int) → List S32 × Int
  | l, [] => if showL (canon l) = b then (canon l, 0) else ([], 17)
  | l, p :: ps => if (looseL p).2 = true then finR b (l ++ [(looseL p).1]) ps else ([], 17)
/-- A piece that has begun. -/
def pend (p : List Int) : List (List Int) → List (List Int)
  | [] => [p]
  | q :: r => (p ++ q) :: r
theorem pend_nil (l : List Int) : pend [] (splitL l) = splitL l := by
  cases h : splitL l with
  | nil => exact absurd h (splitL_ne l)
  | cons q r => rfl
theorem pend_step (p : List Int) (c : Int) (t : List Int) : pend p (splitL (c :: t)) = if c = 44 then p :: splitL t else pend (p ++ [c]) (splitL t) := by
  simp only [splitL]
  by_cases h : c = 44
  · rw [if_pos h, if_pos h]; simp [pend]
  · rw [if_neg h, if_neg h]
    cases splitL t with
    | nil => simp [pend]
    | cons q r => simp [pend]
theorem run_mk (r : S32) : (⟨r.f0, r.f1⟩ : S32) = r := rfl
theorem showL_range (n : List S32) : ∀ c ∈ showL n, 0 ≤ c ∧ c ≤ 255 := by
  have hd : ∀ m : Nat, ∀ c ∈ digs m, 0 ≤ c ∧ c ≤ 255 := fun m c hc => by have := digs_dig m c hc; omega
  have hr : ∀ r : S32, ∀ c ∈ runText r, 0 ≤ c ∧ c ≤ 255 := fun r c hc => by
    unfold runText at hc
    rcases List.mem_append.1 hc with h | h
    · exact hd _ c h
    · split at h
      · rcases List.mem_cons.1 h with h | h
        · omega
        · rcases List.mem_cons.1 h with h | h
          · omega
          · exact hd _ c h
      · cases h
  unfold showL
  split
  · intro c hc; simp at hc; omega
  · cases n with
    | nil => intro c hc; simp [txt, joinL] at hc
    | cons r t =>
      rw [txt_cons]
      intro c hc
      rcases List.mem_append.1 hc with h | h
      · exact hr r c h
      · obtain ⟨q, _, hq⟩ := List.mem_flatMap.1 h
        rcases List.mem_cons.1 hq with h | h
        · omega
        · exact hr q c h
theorem str_eq (n : List S32) (s : ByteArray) : (strOfNums (showL n)).toList = s.toList ↔ showL n = bytesOf s := by
  rw [ByteArray.toList_eq, ByteArray.toList_eq]
  constructor
  · intro h
    rw [← bytesOf_str (showL n) (showL_range n), bytes_ints, bytes_ints, h]
  · intro h
    refine ints_inj _ _ ?_
    rw [← bytes_ints, ← bytes_ints, bytesOf_str (showL n) (showL_range n), h]
theorem refRead_l0 (s : ByteArray) (hs : s.size ≤ 1048576) : ∀ (d i fr : Nat) (l : List S32), i + d = s.size → fr ≤ i → l.length ≤ i →
    Ev (fun k => barrowref01_Read.l0 k s l fr i) (finR (bytesOf s) l (pend (((bytesOf s).drop fr).take (i - fr)) (splitL ((bytesOf s).drop i)))) := by
  have hl := bytesOf_length s
  -- the piece ends
  have fin : ∀ (i fr : Nat) (l : List S32) (R : List S32 × Int) (ps : List (List Int)), fr ≤ i → i ≤ s.size → l.length ≤ i →
      (∀ l' : List S32, l'.length ≤ i + 1 → Ev (fun k => barrowref01_Read.l0 k s l' ((i + 1 : Nat) : Int) ((i + 1 : Nat) : Int)) (finR (bytesOf s) l' ps)) →
      Ev (fun k => barrowref01_Read.j1 k s l fr i false) (finR (bytesOf s) l ((((bytesOf s).drop fr).take (i - fr)) :: ps)) := by
    intro i fr l R ps h1 h2 h3 hn
    have hw : wrap64 ((i : Int) + 1) = ((i + 1 : Nat) : Int) := by unfold wrap64; omega
    have hp := refPiece_ev (s.extract fr i) (by simp; omega)
    rw [bytes_range] at hp
    have all := hp.bind (f := fun (k : Nat) (x : Int × Int × Bool) => if x.2.2 = true then (if l.length < 8796093022208 then barrowref01_Read.l0 k s (l ++ [(⟨x.1, x.2.1⟩ : S32)]) ((i + 1 : Nat) : Int) ((i + 1 : Nat) : Int) else none) else some (([] : List S32), 17)) (r := finR (bytesOf s) l ((((bytesOf s).drop fr).take (i - fr)) :: ps)) (by
      simp only [finR]
      by_cases hb : (looseL (((bytesOf s).drop fr).take (i - fr))).2 = true
      · rw [if_pos hb]
        refine ev_congr (fun k => ?_) (hn (l ++ [(looseL (((bytesOf s).drop fr).take (i - fr))).1]) (by simp; omega))
        rw [if_pos hb, if_pos (by omega), run_mk]
      · rw [if_neg hb]
        refine ev_congr (f := fun _ => some (([] : List S32), 17)) (fun k => ?_) (Ev.now _)
        rw [if_neg hb])
    refine Ev.step (fun k => ?_) all
    simp only [barrowref01_Read.j1]
    rw [if_neg (by decide), if_pos (by omega), if_pos (by omega), if_pos (by omega), hw, Int.toNat_natCast, Int.toNat_natCast]
  -- behind the end
  have done : ∀ l' : List S32, l'.length ≤ s.size + 1 → Ev (fun k => barrowref01_Read.l0 k s l' ((s.size + 1 : Nat) : Int) ((s.size + 1 : Nat) : Int)) (finR (bytesOf s) l' []) := by
    intro l' h
    have h1 := refShow_ev l' (by omega)
    have h2 := refNorm_ev l' (by omega)
    have h3 := h2.bind (f := fun (k : Nat) (x : List S32) => some (x, (0 : Int))) (Ev.now _)
    have all := h1.bind (f := fun (k : Nat) (x : ByteArray) => if x.toList = s.toList then (barrowref01_Norm.f k l').bind fun t => some (t, (0 : Int)) else some (([] : List S32), 17)) (r := finR (bytesOf s) l' []) (by
      simp only [finR]
      by_cases hb : showL (canon l') = bytesOf s
      · rw [if_pos hb]
        refine ev_congr (fun k => ?_) h3
        rw [if_pos ((str_eq _ s).2 hb)]
      · rw [if_neg hb]
        refine ev_congr (f := fun _ => some (([] : List S32), 17)) (fun k => ?_) (Ev.now _)
        rw [if_neg (fun e => hb ((str_eq _ s).1 e))])
    refine Ev.step (fun k => ?_) all
    simp only [barrowref01_Read.l0]
    rw [if_neg (by omega)]
  intro d
  induction d with
  | zero =>
    intro i fr l hd hf hll
    obtain rfl : i = s.size := by omega
    rw [show (bytesOf s).drop s.size = [] from List.drop_eq_nil_of_le (by omega)]
    have e : pend (((bytesOf s).drop fr).take (s.size - fr)) (splitL []) = [((bytesOf s).drop fr).take (s.size - fr)] := by simp [splitL, pend]
    rw [e]
    have := fin s.size fr l ([], 0) [] hf (Nat.le_refl _) hll (fun l' h => done l' h)
    refine Ev.step (fun k => ?_) this
    simp only [barrowref01_Read.l0]
    rw [if_pos (by omega), if_neg (by omega)]
  | succ d ih =>
    intro i fr l hd hf hll
    have hw : wrap64 ((i : Int) + 1) = ((i + 1 : Nat) : Int) := by unfold wrap64; omega
    rw [bytes_drop s i (by omega), pend_step]
    by_cases hc : bt s i = 44
    · rw [if_pos hc]
      have := fin i fr l ([], 0) (splitL ((bytesOf s).drop (i + 1))) hf (by omega) hll (fun l' h => by
        have := ih (i + 1) (i + 1) l' (by omega) (Nat.le_refl _) h
        rw [Nat.sub_self, List.take_zero, pend_nil] at this
        exact this)
      refine Ev.step (fun k => ?_) this
      simp only [barrowref01_Read.l0]
      have hb : (bt s i != 44) = false := by simp [hc]
      rw [if_pos (by omega), if_pos (by omega), if_pos (by omega), hb]
    · rw [if_neg hc]
      have hI := ih (i + 1) fr l (by omega) (by omega) (by omega)
      have e : ((bytesOf s).drop fr).take (i + 1 - fr) = ((bytesOf s).drop fr).take (i - fr) ++ [bt s i] := by
        rw [show i + 1 - fr = (i - fr) + 1 from by omega, List.take_add_one, List.getElem?_drop, show fr + (i - fr) = i from by omega, bt_getD, Int.toNat_natCast, List.getElem?_eq_getElem (by omega), List.getD_eq_getElem?_getD, List.getElem?_eq_getElem (by omega)]
        rfl
      rw [e] at hI
      refine Ev.succ (Ev.step (fun k => ?_) hI)
      have hb : (bt s i != 44) = true := by simp [hc]
      simp only [barrowref01_Read.l0]
      rw [if_pos (by omega), if_pos (by omega), if_pos (by omega), hb]
      simp only [barrowref01_Read.j1, if_true]
      rw [hw]
def refRead (s : ByteArray) : List S32 × Int := if bytesOf s = [110, 111, 110, 101] then ([], 0) else finR (bytesOf s) [] (splitL (bytesOf s))
theorem refRead_ev (s : ByteArray) (hs : s.size ≤ 1048576) : Ev (fun k => barrowref01_Read.f k s) (refRead s) := by
  unfold barrowref01_Read.f refRead
  by_cases h : bytesOf s = [110, 111, 110, 101]
  · rw [if_pos h]
    refine ev_congr (f := fun _ => some (([] : List S32), 0)) (fun k => ?_) (Ev.now _)
    rw [if_pos ((toList_bytes s).2 h)]
  · rw [if_neg h]
    have := refRead_l0 s hs s.size 0 0 [] (by omega) (by omega) (by simp)
    rw [Nat.sub_self, List.take_zero, pend_nil, List.drop_zero] at this
    refine ev_congr (fun k => ?_) this
    rw [if_neg (fun e => h ((toList_bytes s).1 e))]
    rfl
theorem finR_runs (b : List Int) : ∀ (n l : List S32), (∀ r ∈ n, Pure.Good r) → finR b l (n.map runText) = if showL (canon (l ++ n)) = b then (canon (l ++ n), 0) else ([], 17)
  | [], l, _ => by simp [finR]
  | r :: t, l, h => by
    rw [List.map_cons, finR, loose_run r (h r (by simp)), if_pos rfl, finR_runs b t _ (fun x hx => h x (by simp [hx]))]
    simp
theorem finR_cases (b : List Int) : ∀ (ps : List (List Int)) (l : List S32), finR b l ps = ([], 17) ∨ ∃ m, showL (canon m) = b ∧ finR b l ps = (canon m, 0)
  | [], l => by
    simp only [finR]
    by_cases h : showL (canon l) = b
    · rw [if_pos h]; exact .inr ⟨l, h, rfl⟩
    · rw [if_neg h]; exact .inl rfl
  | p :: ps, l => by
    simp only [finR]
    by_cases h : (looseL p).2 = true
    · rw [if_pos h]; exact finR_cases b ps _
    · rw [if_neg h]; exact .inl rfl
/-- The two readers agree. -/
theorem read_eq (s : ByteArray) : refRead s = readD s := by
  unfold refRead
  by_cases h : bytesOf s = [110, 111, 110, 101]
  · rw [if_pos h]
    unfold readD
    rw [if_pos ((toList_bytes s).2 h)]
  · rw [if_neg h]
    have key : ∀ n, Norm n → n ≠ [] → bytesOf s = txt n → finR (bytesOf s) [] (splitL (bytesOf s)) = (n, 0) := by
      intro n hn hne hb
      have e : splitL (bytesOf s) = n.map runText := by rw [hb, split_txt n hne]
      rw [e, finR_runs _ _ _ (NormFrom.good (by omega) hn), List.nil_append, canon_norm hn, if_pos (by unfold showL; rw [if_neg hne]; exact hb.symm)]
    rcases read_back s h with ⟨n, hn, hne, hb, hr⟩ | hr
    · rw [key n hn hne hb, hr]
    · rw [hr]
      rcases finR_cases (bytesOf s) (splitL (bytesOf s)) [] with hf | ⟨m, hm, hf⟩
      · exact hf
      · exfalso
        by_cases hc : canon m = []
        · rw [hc] at hm
          unfold showL at hm
          rw [if_pos rfl] at hm
          exact h hm.symm
        · unfold showL at hm
          rw [if_neg hc] at hm
          have := read_txt s (canon m) (canon_norm' m) hc hm.symm
          rw [hr] at this
          have := congrArg Prod.snd this
          simp at this
end Go.Proofs.YtlmdcpooogaolaaDoor.Txt
