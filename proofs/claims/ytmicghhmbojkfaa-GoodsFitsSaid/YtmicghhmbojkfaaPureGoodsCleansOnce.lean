/- GoodsCleansOnce: what Clean answers is a SKU and is left as it is; a SKU typed with small letters, blanks, lines and slashes comes back. For every text and every list of choices; no condition. -/
import Derived.Test.YtmicghhmbojkfaaGx4
import Derived.Test.YtmicghhmbojkfaaSku
namespace Go.Proofs.Ytmicghhmbojkfaa.Pure
open Go.RowKit Go.Proofs.Ytmicghhmbojkfaa.G Go.Proofs.YtmicghhmbojkfaaW.PrintWords Go.Proofs.YtmicghhmbojkfaaW.PrintLast

/-- Clean's loop over numbers. -/
def goI : List Int → List Int → Int → List Int
  | [], out, _ => out
  | c :: t, out, m =>
    if c = 46 then goI t out 46
    else if c = 32 ∨ c = 9 ∨ c = 95 ∨ c = 47 ∨ c = 45 then goI t out (if m = 0 then 45 else m)
    else goI t ((if m = 0 then out else out ++ [m]) ++ [if 97 ≤ c ∧ c ≤ 122 then c - 32 else c]) 0
theorem go_goI (l : List UInt8) : ∀ out m, cleanGo l out m = goI (l.map fun b => (b.toNat : Int)) out m := by
  induction l with
  | nil => intro out m; rfl
  | cons c t ih => intro out m; simp only [cleanGo, List.map_cons, goI, ih]
theorem cleanOut_eq (s : ByteArray) : cleanOut s = strOfNums (dropMark (goI (bytesOf s) [] 0)) := by
  unfold cleanOut; rw [go_goI]; rfl

/-- What may stand behind a byte (pm: no mark may). -/
def okTail : Bool → List Int → Prop
  | pm, [] => pm = false
  | pm, c :: t => ((letterI c || digitI c) = true ∧ okTail false t) ∨ (isMarkI c = true ∧ pm = false ∧ okTail true t)
theorem ok_check (l : List Int) : ∀ pm i, (l ≠ [] ∨ pm = false) → ((checkGo pm i l).2 = 0 ↔ okTail pm l) := by
  induction l with
  | nil => intro pm i h; simp at h; simp [checkGo, okTail, h]
  | cons c t ih =>
    intro pm i _
    simp only [checkGo, okTail]
    by_cases h1 : (letterI c || digitI c) = true
    · rw [if_pos h1, ih false (i + 1) (.inr rfl)]
      have hm : isMarkI c = false := by
        unfold letterI digitI at h1; unfold isMarkI; simp at h1 ⊢; omega
      simp only [h1, hm, true_and]
      simp
    · rw [if_neg h1]
      by_cases h2 : (isMarkI c && !pm && !t.isEmpty) = true
      · rw [if_pos h2]
        simp only [Bool.and_eq_true, Bool.not_eq_true'] at h2
        obtain ⟨⟨h3, h4⟩, h5⟩ := h2
        have ht : t ≠ [] := by intro e; simp [e] at h5
        rw [ih true (i + 1) (.inl ht)]
        simp only [h1, h3, h4, true_and]
        simp
      · rw [if_neg h2]
        constructor
        · intro h; simp at h
        · rintro (⟨h, _⟩ | ⟨h3, h4, h5⟩)
          · exact absurd h h1
          · exfalso
            apply h2
            cases t with
            | nil => simp [okTail] at h5
            | cons a b => simp [h3, h4]
theorem sku_iff (l : List Int) : (checkL l).2 = 0 ↔ l.length ≤ 24 ∧ okTail true l := by
  unfold checkL
  by_cases h0 : l = []
  · rw [if_pos h0]; subst h0; simp [okTail]
  · rw [if_neg h0]
    by_cases h1 : 24 < l.length
    · rw [if_pos h1]
      constructor
      · intro h; simp at h
      · intro h; omega
    · rw [if_neg h1, ok_check l true 0 (.inl h0)]
      constructor
      · intro h; exact ⟨by omega, h⟩
      · exact fun h => h.2

/-- A run of bytes that Clean takes for the mark c. -/
def runOf (c : Int) (r : List Int) : Prop := (∀ x ∈ r, x = 46 ∨ x = 32 ∨ x = 9 ∨ x = 95 ∨ x = 47 ∨ x = 45) ∧ r ≠ [] ∧ ((c = 46 ∧ 46 ∈ r) ∨ (c = 45 ∧ 46 ∉ r))
/-- u is l as somebody may type it. -/
inductive Typed : List Int → List Int → Prop
  | nil : Typed [] []
  | byte {c b : Int} {t u : List Int} (hc : (letterI c || digitI c) = true) (hb : b = c ∨ (letterI c = true ∧ b = c + 32)) (h : Typed t u) : Typed (c :: t) (b :: u)
  | run {c : Int} {r t u : List Int} (hc : runOf c r) (h : Typed t u) : Typed (c :: t) (r ++ u)

theorem goI_run (r : List Int) (hr : ∀ x ∈ r, x = 46 ∨ x = 32 ∨ x = 9 ∨ x = 95 ∨ x = 47 ∨ x = 45) : ∀ (u out : List Int) (m : Int), (m = 0 ∨ m = 45 ∨ m = 46) →
    goI (r ++ u) out m = goI u out (if 46 ∈ r ∨ m = 46 then 46 else if r = [] then m else 45) := by
  induction r with
  | nil =>
    intro u out m hm
    by_cases h : m = 46 <;> simp [h]
  | cons c t ih =>
    intro u out m hm
    have hc := hr c (by simp)
    have iht := ih (fun x hx => hr x (by simp [hx]))
    simp only [List.cons_append, goI]
    by_cases h46 : c = 46
    · rw [if_pos h46, iht u out 46 (by simp)]
      subst h46
      simp
    · rw [if_neg h46, if_pos (by omega), iht u out _ (by split <;> omega)]
      by_cases hm0 : m = 0
      · subst hm0
        simp only [if_true]
        by_cases ht : (46 : Int) ∈ t
        · simp [ht]
        · have : ¬ ((46 : Int) = c) := fun e => h46 e.symm
          simp [ht, this]
      · rw [if_neg hm0]
        by_cases ht : (46 : Int) ∈ t
        · simp [ht]
        · have : ¬ ((46 : Int) = c) := fun e => h46 e.symm
          rcases hm with rfl | rfl | rfl
          · omega
          · simp [ht, this]
          · simp
theorem runOf_mark {c : Int} {r : List Int} (h : runOf c r) : isMarkI c = true ∧ c ≠ 0 ∧ (letterI c || digitI c) = false := by
  obtain ⟨_, _, h⟩ := h
  unfold isMarkI letterI digitI
  simp
  omega
theorem goI_typed {l u : List Int} (h : Typed l u) : ∀ (out v : List Int) (m : Int), okTail (decide (m ≠ 0)) l → (m = 0 ∨ m = 45 ∨ m = 46) →
    goI (u ++ v) out m = goI v ((if m = 0 then out else out ++ [m]) ++ l) 0 := by
  induction h with
  | nil =>
    intro out v m hok hm
    have : m = 0 := by simpa [okTail] using hok
    subst this
    simp
  | @byte c b t u hc hb _ ih =>
    intro out v m hok hm
    have hm' : isMarkI c = false := by
      unfold letterI digitI at hc; unfold isMarkI; simp at hc ⊢; omega
    have hok' : okTail false t := by
      rcases hok with ⟨_, h⟩ | ⟨h, _⟩
      · exact h
      · rw [hm'] at h; cases h
    have hup : (if 97 ≤ b ∧ b ≤ 122 then b - 32 else b) = c := by
      unfold letterI digitI at hc; unfold letterI at hb; simp at hc hb; split <;> omega
    have hne : ¬ b = 46 ∧ ¬ (b = 32 ∨ b = 9 ∨ b = 95 ∨ b = 47 ∨ b = 45) := by
      unfold letterI digitI at hc; unfold letterI at hb; simp at hc hb; omega
    simp only [List.cons_append, goI]
    rw [if_neg hne.1, if_neg hne.2, hup, ih _ v 0 (by simpa using hok') (.inl rfl)]
    simp
  | @run c r t u hc _ ih =>
    intro out v m hok hm
    obtain ⟨k1, k2, k3⟩ := runOf_mark hc
    have hok' : m = 0 ∧ okTail true t := by
      rcases hok with ⟨h, _⟩ | ⟨_, h, h2⟩
      · rw [k3] at h; cases h
      · exact ⟨by simpa using h, h2⟩
    obtain ⟨rfl, hok'⟩ := hok'
    obtain ⟨hr, hne, hcr⟩ := hc
    rw [List.append_assoc, goI_run r hr _ _ _ (.inl rfl)]
    have hmk : (if 46 ∈ r ∨ (0 : Int) = 46 then (46 : Int) else if r = [] then 0 else 45) = c := by
      rcases hcr with ⟨rfl, h⟩ | ⟨rfl, h⟩
      · simp [h]
      · simp [h, hne]
    rw [hmk, ih out v c (by simpa [k2] using hok') (by rcases hcr with ⟨h, _⟩ | ⟨h, _⟩ <;> simp [h])]
    rw [if_neg k2]
    simp

/-- A SKU as somebody types it, with runs ahead and behind, is cleaned to itself. -/
theorem clean_typed {l u p q : List Int} (h : Typed l u) (hl : okTail true l) (hp : ∀ x ∈ p, x = 32 ∨ x = 9 ∨ x = 95 ∨ x = 47 ∨ x = 45) (hq : ∀ x ∈ q, x = 32 ∨ x = 9 ∨ x = 95 ∨ x = 47 ∨ x = 45) :
    dropMark (goI (p ++ (u ++ q)) [] 0) = l := by
  have h46 : ∀ z : List Int, (∀ x ∈ z, x = 32 ∨ x = 9 ∨ x = 95 ∨ x = 47 ∨ x = 45) → (46 : Int) ∉ z := by
    intro z hz hm
    have := hz 46 hm
    omega
  rw [goI_run p (fun x hx => .inr (hp x hx)) _ _ _ (.inl rfl)]
  have hlne : l ≠ [] := by rintro rfl; simp [okTail] at hl
  have e1 : okTail true l → ∀ b, okTail b l := by
    intro h b
    cases l with
    | nil => exact absurd rfl hlne
    | cons c t =>
      rcases h with h | ⟨_, h, _⟩
      · exact .inl h
      · cases h
  obtain ⟨M, hM⟩ : ∃ M : Int, (if 46 ∈ p ∨ (0 : Int) = 46 then (46 : Int) else if p = [] then 0 else 45) = M := ⟨_, rfl⟩
  rw [hM]
  have hMv : M = 0 ∨ M = 45 := by
    rw [← hM, if_neg (by rintro (h | h); exact h46 p hp h; omega)]
    split <;> simp
  rw [goI_typed h _ _ M (e1 hl _) (by omega)]
  have := goI_run q (fun x hx => .inr (hq x hx)) [] ((if M = 0 then [] else [] ++ [M]) ++ l) 0 (.inl rfl)
  rw [List.append_nil] at this
  rw [this]
  show dropMark ((if M = 0 then [] else [] ++ [M]) ++ l) = l
  rcases hMv with rfl | rfl
  · rw [if_pos rfl, List.nil_append]
    cases l with
    | nil => rfl
    | cons c t =>
      rcases hl with ⟨h, _⟩ | ⟨_, h, _⟩
      · have : isMarkI c = false := by
          unfold letterI digitI at h; unfold isMarkI; simp at h ⊢; omega
        simp [dropMark, this]
      · cases h
  · rw [if_neg (by omega)]
    simp [dropMark, isMarkI]
theorem typed_self {l : List Int} : ∀ {pm}, okTail pm l → Typed l l := by
  induction l with
  | nil => intro pm _; exact .nil
  | cons c t ih =>
    intro pm h
    rcases h with ⟨h1, h2⟩ | ⟨h1, _, h2⟩
    · exact .byte h1 (.inl rfl) (ih h2)
    · have : runOf c [c] := by
        refine ⟨?_, by simp, ?_⟩ <;> (unfold isMarkI at h1; simp at h1 ⊢; omega)
      exact .run this (ih h2)

theorem wide_iff (s : ByteArray) : wideByte s = true ↔ ∃ c ∈ bytesOf s, 128 ≤ c := by
  unfold wideByte bytesOf
  simp only [List.any_eq_true, decide_eq_true_eq, List.mem_map]
  constructor
  · rintro ⟨x, hx, h⟩; exact ⟨_, ⟨x, hx, rfl⟩, by omega⟩
  · rintro ⟨_, ⟨x, hx, rfl⟩, h⟩; exact ⟨x, hx, by omega⟩
/-- Clean's answer. -/
theorem clean_ok (s : ByteArray) (l : List Int) (hs : s.size ≤ 96) (hw : ∀ c ∈ bytesOf s, c < 128) (hd : dropMark (goI (bytesOf s) [] 0) = l) (hl : l.length ≤ 24) (hok : okTail true l) (hr : ∀ c ∈ l, 0 ≤ c ∧ c ≤ 255) :
    goods_Clean.f s = some (strOfNums l, 0) := by
  unfold goods_Clean.f
  rw [if_neg (by omega), if_neg (by rw [wide_iff]; rintro ⟨c, hc, h⟩; have := hw c hc; omega), check_eq _ 100 (by omega), cleanOut_eq, hd, bytesOf_str l hr]
  simp only [Option.bind_some]
  rw [if_pos ((sku_iff l).2 ⟨hl, hok⟩)]
theorem clean_some (s : ByteArray) : ∃ t e, goods_Clean.f s = some (t, e) ∧ (e ≠ 0 → t = ⟨#[]⟩) ∧ (e = 0 → (checkL (bytesOf t)).2 = 0) := by
  unfold goods_Clean.f
  by_cases h1 : 96 < s.size
  · rw [if_pos h1]; exact ⟨_, _, rfl, fun _ => rfl, fun h => by simp at h⟩
  · rw [if_neg h1]
    by_cases h2 : wideByte s = true
    · rw [if_pos h2]; exact ⟨_, _, rfl, fun _ => rfl, fun h => by simp at h⟩
    · rw [if_neg h2, check_eq _ 100 (by omega)]
      simp only [Option.bind_some]
      by_cases h3 : (checkL (bytesOf (cleanOut s))).2 = 0
      · rw [if_pos h3]; exact ⟨_, _, rfl, fun h => absurd rfl h, fun _ => h3⟩
      · rw [if_neg h3]; exact ⟨_, _, rfl, fun _ => rfl, fun h => absurd h h3⟩
theorem ok_range {l : List Int} : ∀ {pm}, okTail pm l → ∀ c ∈ l, 45 ≤ c ∧ c ≤ 90 := by
  induction l with
  | nil => intro pm _ c hc; simp at hc
  | cons a t ih =>
    intro pm h c hc
    have : (45 ≤ a ∧ a ≤ 90) ∧ ∃ pm', okTail pm' t := by
      rcases h with ⟨h1, h2⟩ | ⟨h1, _, h2⟩
      · refine ⟨?_, _, h2⟩; unfold letterI digitI at h1; simp at h1; omega
      · refine ⟨?_, _, h2⟩; unfold isMarkI at h1; simp at h1; omega
    obtain ⟨h1, pm', h2⟩ := this
    rcases List.mem_cons.1 hc with rfl | hc
    · exact h1
    · exact ih h2 c hc
theorem clean_self (s : ByteArray) (h : (checkL (bytesOf s)).2 = 0) : goods_Clean.f s = some (s, 0) := by
  obtain ⟨h1, h2⟩ := (sku_iff _).1 h
  have := clean_ok s (bytesOf s) (by rw [bytesOf_length] at h1; omega) (fun c hc => by have := ok_range h2 c hc; omega)
    (by have := clean_typed (p := []) (q := []) (typed_self h2) h2 (by simp) (by simp); simpa using this) h1 h2 (bytesOf_range s)
  rw [str_bytesOf] at this
  exact this

theorem typed_app (s : ByteArray) (l1 out : List Int) (i : Nat) (k : Nat) (hi : i < s.size) (hs : s.size ≤ 24) (hlen : out.length ≤ 200) (c : Int) :
    (if out.length < 140737488355328 then (barrowlaw02_typed.l0 k s l1 (out ++ [c]) (wrap64 ((i : Int) + 1))) else none) = barrowlaw02_typed.l0 k s l1 (out ++ [c]) ((i + 1 : Nat) : Int) := by
  rw [if_pos (by omega), show wrap64 ((i : Int) + 1) = ((i + 1 : Nat) : Int) from by unfold wrap64; omega]
theorem typed_app2 (s : ByteArray) (l1 out : List Int) (i : Nat) (k : Nat) (hi : i < s.size) (hs : s.size ≤ 24) (hlen : out.length ≤ 200) (c d : Int) :
    (if out.length < 140737488355328 then ((some (out ++ [d] : List Int)).bind fun y138 => (if y138.length < 140737488355328 then (barrowlaw02_typed.l0 k s l1 (y138 ++ [c]) (wrap64 ((i : Int) + 1))) else (none))) else (none)) = barrowlaw02_typed.l0 k s l1 (out ++ [d, c]) ((i + 1 : Nat) : Int) := by
  rw [if_pos (by omega)]
  simp only [Option.bind_some]
  rw [if_pos (by simp; omega), show wrap64 ((i : Int) + 1) = ((i + 1 : Nat) : Int) from by unfold wrap64; omega, List.append_assoc]
  rfl
theorem typed_j5 (s : ByteArray) (l1 out : List Int) (i : Nat) (k : Nat) (hi : i < s.size) (hs : s.size ≤ 24) (hlen : out.length ≤ 200) (x7 c : Int) (b : Bool) :
    barrowlaw02_typed.j5 (k + 1) s l1 out i x7 c b = barrowlaw02_typed.l0 k s l1 (out ++ if b = true then [32, c] else if c = 46 ∧ x7 > 3 then [45, c] else [c]) ((i + 1 : Nat) : Int) := by
  simp only [barrowlaw02_typed.j5]
  rw [typed_app2 s l1 out i k hi hs hlen, typed_app2 s l1 out i k hi hs hlen, typed_app s l1 out i k hi hs hlen]
  by_cases hb : b = true
  · rw [if_pos hb, if_pos hb]
  · rw [if_neg hb, if_neg hb]
    by_cases h1 : c = 46
    · rw [if_pos h1]
      by_cases h2 : x7 > 3
      · rw [if_pos h2, if_pos ⟨h1, h2⟩]
      · rw [if_neg h2, if_neg (fun h => h2 h.2)]
    · rw [if_neg h1, if_neg (fun h => h1 h.1)]
theorem typed_j2 (s : ByteArray) (l1 out : List Int) (i : Nat) (k : Nat) (hi : i < s.size) (hs : s.size ≤ 24) (hlen : out.length ≤ 200) (x7 c : Int) (b : Bool) :
    ∃ k', k ≤ k' ∧ barrowlaw02_typed.j2 (k + 4) s l1 out i x7 c b = barrowlaw02_typed.l0 k' s l1 (out ++ if b = true then [(c + 32) % 256] else if c = 45 ∧ x7 = 1 then [95] else if c = 45 ∧ x7 = 2 then [47] else if c = 45 ∧ x7 > 3 then [32, c] else if c = 46 ∧ x7 > 3 then [45, c] else [c]) ((i + 1 : Nat) : Int) := by
  by_cases hb : b = true
  · refine ⟨k + 3, by omega, ?_⟩
    simp only [barrowlaw02_typed.j2]
    rw [if_pos hb, if_pos hb, typed_app s l1 out i (k + 3) hi hs hlen]
  · have e : barrowlaw02_typed.j2 (k + 4) s l1 out i x7 c b = barrowlaw02_typed.j3 (k + 3) s l1 out i x7 c (decide (c = 45 ∧ x7 = 1)) := by
      simp only [barrowlaw02_typed.j2]
      rw [if_neg hb]
      by_cases h : c = 45
      · rw [if_pos h]; simp [h]; rfl
      · rw [if_neg h]; simp [h]
    rw [e, if_neg hb]
    by_cases h1 : c = 45 ∧ x7 = 1
    · refine ⟨k + 2, by omega, ?_⟩
      simp only [barrowlaw02_typed.j3]
      rw [if_pos (by simpa using h1), if_pos h1, typed_app s l1 out i (k + 2) hi hs hlen]
    · have e3 : barrowlaw02_typed.j3 (k + 3) s l1 out i x7 c (decide (c = 45 ∧ x7 = 1)) = barrowlaw02_typed.j4 (k + 2) s l1 out i x7 c (decide (c = 45 ∧ x7 = 2)) := by
        simp only [barrowlaw02_typed.j3]
        rw [if_neg (by simpa using h1)]
        by_cases h : c = 45
        · rw [if_pos h]; simp [h]; rfl
        · rw [if_neg h]; simp [h]
      rw [e3, if_neg h1]
      by_cases h2 : c = 45 ∧ x7 = 2
      · refine ⟨k + 1, by omega, ?_⟩
        simp only [barrowlaw02_typed.j4]
        rw [if_pos (by simpa using h2), if_pos h2, typed_app s l1 out i (k + 1) hi hs hlen]
      · have e4 : barrowlaw02_typed.j4 (k + 2) s l1 out i x7 c (decide (c = 45 ∧ x7 = 2)) = barrowlaw02_typed.j5 (k + 1) s l1 out i x7 c (decide (c = 45 ∧ x7 > 3)) := by
          simp only [barrowlaw02_typed.j4]
          rw [if_neg (by simpa using h2)]
          by_cases h : c = 45
          · rw [if_pos h]; simp [h]
          · rw [if_neg h]; simp [h]
        rw [e4, if_neg h2]
        refine ⟨k, by omega, ?_⟩
        rw [typed_j5 s l1 out i k hi hs hlen]
        by_cases h3 : c = 45 ∧ x7 > 3
        · rw [if_pos (by simpa using h3), if_pos h3]
        · rw [if_neg (by simpa using h3), if_neg h3]
theorem typed_round (s : ByteArray) (l1 out : List Int) (i : Nat) (k : Nat) (hi : i < s.size) (hs : s.size ≤ 24) (hlen : out.length ≤ 200) (hc : (letterI (bt s i) || digitI (bt s i)) = true ∨ isMarkI (bt s i) = true) :
    ∃ r k', k ≤ k' ∧ barrowlaw02_typed.l0 (k + 6) s l1 out i = barrowlaw02_typed.l0 k' s l1 (out ++ r) ((i + 1 : Nat) : Int) ∧ r.length ≤ 2 ∧ (∀ x ∈ r, 0 ≤ x ∧ x < 128) ∧
      (((letterI (bt s i) || digitI (bt s i)) = true ∧ ∃ b, r = [b] ∧ (b = bt s i ∨ (letterI (bt s i) = true ∧ b = bt s i + 32))) ∨ runOf (bt s i) r) := by
  have h0 : ∃ x7, barrowlaw02_typed.l0 (k + 6) s l1 out i = barrowlaw02_typed.j1 (k + 5) s l1 out i x7 := by
    simp only [barrowlaw02_typed.l0]
    rw [if_pos (by omega)]
    split
    · rw [if_pos (by omega)]; exact ⟨_, rfl⟩
    · exact ⟨_, rfl⟩
  obtain ⟨x7, h0⟩ := h0
  have h1 : barrowlaw02_typed.j1 (k + 5) s l1 out i x7 = barrowlaw02_typed.j2 (k + 4) s l1 out i x7 (bt s i) (letterI (bt s i) && decide (x7 > 2)) := by
    simp only [barrowlaw02_typed.j1]
    rw [if_pos (by omega), if_pos (by omega)]
    unfold letterI
    by_cases a : bt s i ≥ 65
    · rw [if_pos a]
      by_cases b : bt s i ≤ 90
      · rw [if_pos b]; simp [a, b]
      · rw [if_neg b]; simp [b]
    · rw [if_neg a]; have : ¬ 65 ≤ bt s i := a; simp [this]
  obtain ⟨k', hk', h2⟩ := typed_j2 s l1 out i k hi hs hlen x7 (bt s i) (letterI (bt s i) && decide (x7 > 2))
  rw [h0, h1, h2]
  refine ⟨_, k', hk', rfl, ?_, ?_, ?_⟩
  · split
    · simp
    · repeat' split
      all_goals simp
  · generalize bt s i = c at *
    have hc' : (65 ≤ c ∧ c ≤ 90) ∨ (48 ≤ c ∧ c ≤ 57) ∨ c = 45 ∨ c = 46 := by
      unfold letterI digitI isMarkI at hc; simp at hc; omega
    intro x hx
    split at hx
    · simp at hx; omega
    · repeat' split at hx
      all_goals simp at hx
      all_goals omega
  · generalize bt s i = c at *
    have hc' : (letterI c = true ∧ 65 ≤ c ∧ c ≤ 90) ∨ (letterI c = false ∧ digitI c = true ∧ 48 ≤ c ∧ c ≤ 57) ∨ (letterI c = false ∧ digitI c = false ∧ (c = 45 ∨ c = 46)) := by
      unfold letterI digitI isMarkI at *; simp at hc ⊢; omega
    rcases hc' with ⟨a, b⟩ | ⟨a, a2, b⟩ | ⟨a, a2, b⟩
    · left
      refine ⟨by rw [a]; rfl, ?_⟩
      rw [a, Bool.true_and]
      by_cases hx : x7 > 2
      · rw [if_pos (by simpa using hx)]; exact ⟨_, rfl, .inr ⟨rfl, by omega⟩⟩
      · rw [if_neg (by simpa using hx), if_neg (by omega), if_neg (by omega), if_neg (by omega), if_neg (by omega)]; exact ⟨_, rfl, .inl rfl⟩
    · left
      refine ⟨by rw [a2]; simp, ?_⟩
      rw [a, Bool.false_and, if_neg (by simp), if_neg (by omega), if_neg (by omega), if_neg (by omega), if_neg (by omega)]
      exact ⟨_, rfl, .inl rfl⟩
    · right
      rw [a, Bool.false_and, if_neg (by simp)]
      unfold runOf
      rcases b with rfl | rfl
      · by_cases e1 : x7 = 1
        · simp [e1]
        · by_cases e2 : x7 = 2
          · simp [e2]
          · by_cases e3 : x7 > 3
            · simp [e1, e2, e3]
            · simp [e1, e2, e3]
      · by_cases e3 : x7 > 3
        · simp [e3]
        · simp [e3]
theorem typed_l0 (s : ByteArray) (l1 : List Int) (hs : s.size ≤ 24) (hc : ∀ i : Nat, i < s.size → (letterI (bt s i) || digitI (bt s i)) = true ∨ isMarkI (bt s i) = true) : ∀ (d i k : Nat) (out : List Int), i + d = s.size → 6 * d < k → out.length ≤ 2 + 2 * i →
    ∃ u, barrowlaw02_typed.l0 k s l1 out i = some (strOfNums (out ++ (u ++ [47, 32]))) ∧ Typed ((bytesOf s).drop i) u ∧ u.length ≤ 2 * d ∧ (∀ x ∈ u, 0 ≤ x ∧ x < 128)
  | 0, i, k, out, hd, hk, ho => by
    obtain ⟨k, rfl⟩ : ∃ m, k = m + 1 := ⟨k - 1, by omega⟩
    refine ⟨[], ?_, ?_, by simp, by simp⟩
    · simp only [barrowlaw02_typed.l0]
      rw [if_neg (by omega)]
      simp only [Option.bind_some]
      rw [if_pos (by simp; omega)]
      rfl
    · rw [List.drop_eq_nil_of_le (by rw [bytesOf_length]; omega)]; exact .nil
  | d + 1, i, k, out, hd, hk, ho => by
    obtain ⟨k, rfl⟩ : ∃ m, k = m + 6 := ⟨k - 6, by omega⟩
    obtain ⟨r, k', hk', e, hr, hrr, hcase⟩ := typed_round s l1 out i k (by omega) hs (by omega) (hc i (by omega))
    obtain ⟨u, hu, ht, hl, hur⟩ := typed_l0 s l1 hs hc d (i + 1) k' (out ++ r) (by omega) (by omega) (by simp; omega)
    refine ⟨r ++ u, ?_, ?_, by simp; omega, ?_⟩
    · rw [e, hu]; simp
    · rw [bytesOf_drop s i (by omega)]
      rcases hcase with ⟨h1, b, rfl, h2⟩ | h
      · exact .byte h1 h2 ht
      · exact .run h ht
    · intro x hx
      rcases List.mem_append.1 hx with hx | hx
      · exact hrr x hx
      · exact hur x hx
theorem ok_bytes {l : List Int} : ∀ {pm}, okTail pm l → ∀ c ∈ l, (letterI c || digitI c) = true ∨ isMarkI c = true := by
  induction l with
  | nil => intro pm _ c hc; simp at hc
  | cons a t ih =>
    intro pm h c hc
    rcases List.mem_cons.1 hc with rfl | hc
    · rcases h with ⟨h, _⟩ | ⟨h, _⟩
      · exact .inl h
      · exact .inr h
    · rcases h with ⟨_, h⟩ | ⟨_, _, h⟩
      · exact ih h c hc
      · exact ih h c hc
theorem bt_mem (s : ByteArray) (i : Nat) (h : i < s.size) : bt s i ∈ bytesOf s := by
  have := List.mem_of_mem_drop (i := i) (a := bt s i) (l := bytesOf s) (by rw [bytesOf_drop s i h]; simp)
  exact this
theorem typed_ok (s : ByteArray) (l1 : List Int) (h : (checkL (bytesOf s)).2 = 0) (k : Nat) (hk : 200 < k) :
    ∃ t, barrowlaw02_typed.f k s l1 = some t ∧ goods_Clean.f t = some (s, 0) := by
  obtain ⟨h1, h2⟩ := (sku_iff _).1 h
  rw [bytesOf_length] at h1
  obtain ⟨u, hu, ht, hl, hur⟩ := typed_l0 s l1 h1 (fun i hi => ok_bytes h2 _ (bt_mem s i hi)) s.size 0 k [32, 9] (by omega) (by omega) (by simp)
  refine ⟨_, hu, ?_⟩
  have hb : ∀ c ∈ ([32, 9] : List Int) ++ (u ++ [47, 32]), 0 ≤ c ∧ c < 128 := by
    intro c hc
    simp only [List.mem_append, List.mem_cons, List.not_mem_nil, or_false] at hc
    rcases hc with h | h | h
    · omega
    · exact hur c h
    · omega
  have hB := bytesOf_str _ (fun c hc => by have := hb c hc; omega)
  rw [List.drop_zero] at ht
  have := clean_ok (strOfNums ([32, 9] ++ (u ++ [47, 32]))) (bytesOf s) (by rw [← bytesOf_length, hB]; simp; omega) (by rw [hB]; intro c hc; exact (hb c hc).2)
    (by rw [hB]; exact clean_typed ht h2 (by simp) (by simp)) (by rw [bytesOf_length]; exact h1) h2 (bytesOf_range s)
  rw [str_bytesOf] at this
  exact this
theorem good_eq (s : ByteArray) (k : Nat) (hk : 48 < k) : goods_Good.f k s = some ((checkL (bytesOf s)).2 == 0) := by
  unfold goods_Good.f
  rw [check_eq s k hk]
  rfl

theorem GoodsCleansOnce : barrowlaw02_GoodsCleansOnce.Pure := by
  intro a0 l1 _ _ _ _
  have key : ∀ s : ByteArray, (checkL (bytesOf s)).2 = 0 → barrowlaw02_GoodsCleansOnce.j1 999 l1 s = some true := by
    intro s hs
    simp only [barrowlaw02_GoodsCleansOnce.j1]
    rw [good_eq s 998 (by omega), hs, clean_self s hs]
    simp only [Option.bind_some]
    obtain ⟨t, ht, hc⟩ := typed_ok s l1 hs 997 (by omega)
    simp only [barrowlaw02_GoodsCleansOnce.j2]
    rw [ht]
    simp only [Option.bind_some]
    rw [hc]
    simp
  have h0 : goods_Clean.f (⟨#[32, 97, 98, 95, 32, 49, 50, 32, 46, 32, 120, 32]⟩ : ByteArray) = some ((⟨#[65, 66, 45, 49, 50, 46, 88]⟩ : ByteArray), 0) := by kernel_rfl
  refine ⟨1000, ?_⟩
  unfold barrowlaw02_GoodsCleansOnce.f
  rw [h0]
  simp only [Option.bind_some]
  rw [if_pos (by rw [ByteArray.toList_eq])]
  simp only [barrowlaw02_GoodsCleansOnce.j0]
  rw [if_neg (by decide)]
  obtain ⟨t, e, hc, h1, h2⟩ := clean_some a0
  rw [hc]
  simp only [Option.bind_some]
  by_cases he : e = 0
  · rw [if_pos he]
    exact key t (h2 he)
  · rw [if_neg he, if_pos (by rw [h1 he, ByteArray.toList_eq])]
    exact key _ (by kernel_rfl)
end Go.Proofs.Ytmicghhmbojkfaa.Pure
