import Derived.Test.YtlmdhpfggobogaaDoorQSk23
import Derived.Test.YtlmdhpfggobogaaDoorQSk22
namespace Go.Proofs.YtlmdhpfggobogaaDoor.Pure
open Go.Proofs.YtlmdhpfggobogaaDoor.G hiding bytesOf_length
open Go.RowKit Go.Proofs.YtlmdhpfggobogaaDoorW.PrintWords Go.Proofs.YtlmdhpfggobogaaDoorW.PrintLast
open Go.Proofs.YtlmdhpfggobogaaDoor.Dec (digs digs_dig digs_ne)
set_option linter.unusedVariables false
def okW (w : List Int) : Prop := (w ≠ [] ∧ (∀ c ∈ w, isB c = false) ∧ w.headD 0 ≠ 34) ∨ ∃ m, w = 34 :: (m ++ [34]) ∧ 34 ∉ m
theorem run_bare (hs : Bool) : ∀ (w r v : List Int) (acc : List (List Int)), (∀ c ∈ w, isB c = false) → run hs (w ++ r) (.bare v) acc = run hs r (.bare (v ++ w)) acc
  | [], r, v, acc, _ => by simp
  | c :: t, r, v, acc, h => by
    have hc := h c (by simp)
    have ih := run_bare hs t r (v ++ [c]) acc (fun x hx => h x (by simp [hx]))
    rw [List.cons_append]
    conv => lhs; unfold run
    rw [hc, if_neg (by decide), ih]
    simp
theorem run_quoL (hs : Bool) : ∀ (m r v : List Int) (acc : List (List Int)), 34 ∉ m → run hs (m ++ 34 :: r) (.quo v) acc = run hs r (.shut (v ++ m ++ [34])) acc
  | [], r, v, acc, _ => by
    rw [List.nil_append]
    conv => lhs; unfold run
    rw [if_pos rfl]; simp
  | c :: t, r, v, acc, h => by
    have hc : ¬ c = 34 := fun e => h (by simp [e])
    have ih := run_quoL hs t r (v ++ [c]) acc (fun hx => h (by simp [hx]))
    rw [List.cons_append]
    conv => lhs; unfold run
    rw [if_neg hc, ih]
    simp
theorem run_word (hs : Bool) (w r : List Int) (acc : List (List Int)) (h : okW w) : ∃ st, run hs (w ++ r) .gap acc = run hs r st acc ∧ (st = .bare w ∨ st = .shut w) := by
  rcases h with ⟨hne, hb, hq⟩ | ⟨m, rfl, hm⟩
  · cases w with
    | nil => exact absurd rfl hne
    | cons c t =>
      refine ⟨_, ?_, .inl rfl⟩
      have hc := hb c (by simp)
      have h34 : ¬ c = 34 := hq
      rw [List.cons_append]
      conv => lhs; unfold run
      rw [hc, if_neg (by decide), if_neg h34, run_bare hs t r [c] acc (fun x hx => hb x (by simp [hx]))]
      rfl
  · refine ⟨_, ?_, .inr rfl⟩
    have e : 34 :: (m ++ [34]) ++ r = 34 :: (m ++ 34 :: r) := by simp
    rw [e]
    conv => lhs; unfold run
    rw [if_neg (by decide), if_pos rfl, run_quoL hs m r [34] acc hm]
    rfl
theorem run_line (hs : Bool) : ∀ (ws : List (List Int)) (W : List Int) (acc : List (List Int)), hashL (acc ++ [W]) = false → okW W → (∀ w ∈ ws, okW w) → run hs (W ++ sep ws) .gap acc = some (acc ++ W :: ws)
  | [], W, acc, hh, hW, _ => by
    obtain ⟨st, h1, h2⟩ := run_word hs W [] acc hW
    show run hs (W ++ []) .gap acc = _
    rw [h1]
    rcases h2 with rfl | rfl
    all_goals
      show (if (hs && hashL (acc ++ [W])) = true then some [] else some (acc ++ [W])) = _
      rw [hh, Bool.and_false, if_neg (by decide)]
  | w :: ws, W, acc, hh, hW, hws => by
    obtain ⟨st, h1, h2⟩ := run_word hs W (sep (w :: ws)) acc hW
    have e1 : sep (w :: ws) = 32 :: (w ++ sep ws) := rfl
    have hh2 : hashL (acc ++ [W] ++ [w]) = false := by
      rw [← hh]
      unfold hashL
      cases acc <;> rfl
    have ih := run_line hs ws w (acc ++ [W]) hh2 (hws w (by simp)) (fun x hx => hws x (by simp [hx]))
    rw [h1, e1]
    have e2 : run hs (32 :: (w ++ sep ws)) st acc = run hs (w ++ sep ws) .gap (acc ++ [W]) := by
      rcases h2 with rfl | rfl
      all_goals
        conv => lhs; unfold run
        rw [if_pos (by decide), hh, Bool.and_false, if_neg (by decide)]
    rw [e2, ih]
    simp
theorem numI_chars (n : Int) : numI n ≠ [] ∧ ∀ c ∈ numI n, c = 45 ∨ (48 ≤ c ∧ c ≤ 57) := by
  unfold numI
  split
  · refine ⟨by simp, fun c hc => ?_⟩
    rcases List.mem_cons.1 hc with e | e
    · exact .inl e
    · exact .inr (digs_dig _ _ e)
  · exact ⟨digs_ne _, fun c hc => .inr (digs_dig _ _ hc)⟩
theorem okW_of (w : List Int) (h1 : w ≠ []) (h2 : ∀ c ∈ w, isB c = false ∧ c ≠ 34) : okW w := by
  refine .inl ⟨h1, fun c hc => (h2 c hc).1, ?_⟩
  cases w with
  | nil => exact absurd rfl h1
  | cons c t => exact (h2 c (by simp)).2
theorem isB_no {c : Int} (h : c ≠ 32 ∧ c ≠ 9 ∧ c ≠ 13) : isB c = false := by unfold isB; simp; omega
theorem okW_num (n : Int) : okW (numI n) := by
  obtain ⟨h1, h2⟩ := numI_chars n
  refine okW_of _ h1 (fun c hc => ?_)
  have := h2 c hc
  exact ⟨isB_no (by omega), by omega⟩
theorem goodI_chars (l : List Int) (h : goodI l = true) : l ≠ [] ∧ ∀ c ∈ l, (65 ≤ c ∧ c ≤ 90) ∨ (48 ≤ c ∧ c ≤ 57) ∨ c = 45 ∨ c = 46 := by
  unfold goodI at h
  have h0 : (checkL l).2 = 0 := by simpa using h
  unfold checkL at h0
  by_cases h1 : l = []
  · rw [if_pos h1] at h0; exact absurd h0 (by decide)
  · rw [if_neg h1] at h0
    by_cases h2 : 24 < l.length
    · rw [if_pos h2] at h0; exact absurd h0 (by decide)
    · rw [if_neg h2] at h0
      refine ⟨h1, fun c hc => ?_⟩
      rcases checkGo_chars l true 0 h0 c hc with e | e | e
      · unfold letterI at e; simp at e; omega
      · unfold digitI at e; simp at e; omega
      · unfold isMarkI at e; simp at e; omega
theorem hex_chars : ∀ m : Fin 16, 48 ≤ bt hexB ((m.val : Nat) : Int) ∧ bt hexB ((m.val : Nat) : Int) ≤ 102 := by decide +kernel
theorem hex_char {m : Int} (hm : 0 ≤ m ∧ m < 16) : 48 ≤ bt hexB m ∧ bt hexB m ≤ 102 := by
  have e1 : ((m.toNat : Nat) : Int) = m := by omega
  have := hex_chars ⟨m.toNat, by omega⟩
  simpa [e1] using this
theorem esc_chars (l : List Int) (hl : byteR l) : ∀ c ∈ l.flatMap escI, 33 ≤ c ∧ c ≤ 126 ∧ c ≠ 34 := by
  intro c hc
  obtain ⟨x, hx, hc⟩ := List.mem_flatMap.1 hc
  have hr := hl x hx
  unfold escI at hc
  split at hc
  · rename_i hlit
    simp at hc; subst hc
    unfold litI at hlit; simp at hlit; omega
  · have h1 := hex_char (m := x / 16) (by omega)
    have h2 := hex_char (m := x % 16) (by omega)
    simp only [List.mem_cons, List.not_mem_nil, or_false] at hc
    rcases hc with e | e | e | e <;> omega
theorem okW_sku (l : List Int) (hl : byteR l) : okW (skuI l) := by
  unfold skuI
  split
  · rename_i hg
    obtain ⟨h1, h2⟩ := goodI_chars l hg
    refine okW_of _ h1 (fun c hc => ?_)
    have := h2 c hc
    exact ⟨isB_no (by omega), by omega⟩
  · exact .inr ⟨_, rfl, fun h => (esc_chars l hl 34 h).2.2 rfl⟩
def wordC (l : List Int) : Prop := ∀ c ∈ l, 33 ≤ c ∧ c ≤ 126
theorem num_C (n : Int) : wordC (numI n) := fun c hc => by have := (numI_chars n).2 c hc; omega
theorem sku_C (l : List Int) (hl : byteR l) : wordC (skuI l) := by
  unfold skuI
  split
  · rename_i hg
    intro c hc
    have := (goodI_chars l hg).2 c hc
    omega
  · intro c hc
    unfold quoI at hc
    rcases List.mem_cons.1 hc with e | e
    · omega
    · rcases List.mem_append.1 e with e | e
      · have := esc_chars l hl c e; omega
      · simp at e; omega
theorem shp_word (k : Int) : bytesOf (shp k).1 ≠ [] ∧ (∀ c ∈ bytesOf (shp k).1, 97 ≤ c ∧ c ≤ 122) := by
  rcases kind_cases k with rfl | rfl | rfl | rfl | rfl | rfl | rfl | rfl | rfl | rfl | rfl | rfl | rfl | rfl | rfl | rfl | h | h
  all_goals first | (decide +kernel) | (rw [(out_of (a0 := k) (by omega)).1]; decide +kernel)
theorem okW_shp (k : Int) : okW (bytesOf (shp k).1) := by
  obtain ⟨h1, h2⟩ := shp_word k
  refine okW_of _ h1 (fun c hc => ?_)
  have := h2 c hc
  exact ⟨isB_no (by omega), by omega⟩
theorem shp_hash (k : Int) : hashL ([] ++ [bytesOf (shp k).1]) = false := by
  obtain ⟨h1, h2⟩ := shp_word k
  unfold hashL
  cases h : bytesOf (shp k).1 with
  | nil => exact absurd h h1
  | cons c t =>
    have := h2 c (by rw [h]; simp)
    simp; omega
section
variable (a0 a1 a2 a3 : Int) (a4 : ByteArray) (a5 a6 : Int)
theorem okW_word (c : Int) : okW (wordI a0 a1 a2 a3 a4 a5 a6 c) := by
  unfold wordI
  split
  · exact okW_sku _ (bytesOf_range a4)
  · exact okW_num _
theorem word_C (c : Int) : wordC (wordI a0 a1 a2 a3 a4 a5 a6 c) := by
  unfold wordI
  split
  · exact sku_C _ (bytesOf_range a4)
  · exact num_C _
theorem line_run (hs : Bool) : run hs (lineI a0 a1 a2 a3 a4 a5 a6) .gap [] = some (bytesOf (shp a0).1 :: (bytesOf (shp a0).2).map (wordI a0 a1 a2 a3 a4 a5 a6)) := by
  rw [line_sep, run_line hs _ _ [] (shp_hash a0) (okW_shp a0)]
  · rfl
  · intro w hw
    obtain ⟨c, _, rfl⟩ := List.mem_map.1 hw
    exact okW_word _ _ _ _ _ _ _ c
theorem line_C : ∀ c ∈ lineI a0 a1 a2 a3 a4 a5 a6, 32 ≤ c ∧ c ≤ 126 := by
  rw [line_sep]
  intro c hc
  rcases List.mem_append.1 hc with h | h
  · have := (shp_word a0).2 c h; omega
  · unfold sep at h
    obtain ⟨w, hw, hc⟩ := List.mem_flatMap.1 h
    obtain ⟨x, _, rfl⟩ := List.mem_map.1 hw
    rcases List.mem_cons.1 hc with e | e
    · omega
    · have := word_C a0 a1 a2 a3 a4 a5 a6 x c e; omega
def setP (o : S29) (c : Int) : S29 := if c = 115 then { o with f4 := a4 } else setF o c (fldV a0 a1 a2 a3 a5 a6 c)
theorem plainL_snoc' (L : List Int) (c : Int) (h : c = 115 ∨ c = 114 ∨ c = 99 ∨ c = 116 ∨ c = 113 ∨ c = 110 ∨ c = 107) :
    plainL a0 a1 a2 a3 a4 a5 a6 (L ++ [c]) = setP a0 a1 a2 a3 a4 a5 a6 (plainL a0 a1 a2 a3 a4 a5 a6 L) c := by
  rcases h with rfl | rfl | rfl | rfl | rfl | rfl | rfl <;> simp [plainL, setP, setF, fldV]
theorem skuT_back (s : ByteArray) : skuT (skuB s) = (s, true) := by
  unfold skuT
  rw [skuB_bytes]
  by_cases hg : goodI (bytesOf s) = true
  · have e : skuI (bytesOf s) = bytesOf s := by unfold skuI; rw [if_pos hg]
    rw [e, if_pos hg]
    unfold skuB
    rw [e, str_bytesOf]
  · have e : skuI (bytesOf s) = quoI (bytesOf s) := by unfold skuI; rw [if_neg hg]
    have hq : ¬ goodI (quoI (bytesOf s)) = true := by
      intro h
      have := (goodI_chars _ h).2 34 (by simp [quoI])
      omega
    have hsz : (skuB s).size = ((bytesOf s).flatMap escI).length + 2 := by
      rw [← bytesOf_length, skuB_bytes, e, quoI, List.length_cons, List.length_append, List.length_singleton]
    have hb : bytesOf (skuB s) = 34 :: ((bytesOf s).flatMap escI ++ [34]) := by rw [skuB_bytes, e]; rfl
    have h0 : bt (skuB s) 0 = 34 := by rw [bt_getD, hb]; rfl
    have h9 : bt (skuB s) (((skuB s).size - 1 : Nat) : Int) = 34 := by
      rw [bt_getD, hb, hsz, Int.toNat_natCast, show ((bytesOf s).flatMap escI).length + 2 - 1 = ((bytesOf s).flatMap escI).length + 1 by omega, List.getD_eq_getElem?_getD, List.getElem?_cons_succ, List.getElem?_append_right (Nat.le_refl _), Nat.sub_self]
      rfl
    rw [e, if_neg hq, if_pos ⟨by omega, h0, h9⟩, hsz, Nat.add_sub_cancel]
    show outU [] (unI (((bytesOf s).flatMap escI ++ [34]).take _)) = _
    rw [List.take_append_of_le_length (Nat.le_refl _), List.take_length, unI_escs _ (bytesOf_range s)]
    show (strOfNums ([] ++ bytesOf s), true) = _
    rw [List.nil_append, str_bytesOf]
end
theorem skuB_size (s : ByteArray) (h : s.size ≤ 1048576) : (skuB s).size ≤ 5000000 := by
  have := skuI_len (bytesOf s)
  rw [bytesOf_length] at this
  rw [← bytesOf_length, skuB_bytes]
  omega
theorem readAll_ev (o : S29) (ho : okS o) : ∀ (T D : List Int), (∀ c ∈ T, c = 115 ∨ c = 114 ∨ c = 99 ∨ c = 116 ∨ c = 113 ∨ c = 110 ∨ c = 107) →
    Ev (fun k => readAll k T ((T.map (wordI o.f0 o.f1 o.f2 o.f3 o.f4 o.f5 o.f6)).map strOfNums) (plainL o.f0 o.f1 o.f2 o.f3 o.f4 o.f5 o.f6 D)) (some (plainL o.f0 o.f1 o.f2 o.f3 o.f4 o.f5 o.f6 (D ++ T)))
  | [], D, _ => by rw [List.append_nil]; exact Ev.now _
  | c :: t, D, h => by
    have hc := h c (by simp)
    have ih := readAll_ev o ho t (D ++ [c]) (fun x hx => h x (by simp [hx]))
    rw [plainL_snoc' _ _ _ _ _ _ _ _ _ hc, List.append_assoc, List.singleton_append] at ih
    simp only [List.map_cons]
    by_cases h1 : c = 115
    · have ew : strOfNums (wordI o.f0 o.f1 o.f2 o.f3 o.f4 o.f5 o.f6 c) = skuB o.f4 := by unfold wordI skuB; rw [if_pos h1]
      have hr := readSku_ev (skuB o.f4) (by have := skuB_size o.f4 ho.2.2.2.2.1; omega)
      rw [skuT_back] at hr
      rw [ew]
      refine Ev.congr (fun k => ?_) (Ev.bind (f := fun k r => if r.2 = true then readAll k t ((t.map (wordI o.f0 o.f1 o.f2 o.f3 o.f4 o.f5 o.f6)).map strOfNums) { plainL o.f0 o.f1 o.f2 o.f3 o.f4 o.f5 o.f6 D with f4 := r.1 } else some none) hr ?_)
      · simp only [readAll]
        rw [if_pos h1]
      · refine Ev.congr (fun k => if_pos rfl) ?_
        unfold setP at ih
        rw [if_pos h1] at ih
        exact ih
    · have ew : strOfNums (wordI o.f0 o.f1 o.f2 o.f3 o.f4 o.f5 o.f6 c) = itoaB (fldV o.f0 o.f1 o.f2 o.f3 o.f5 o.f6 c) := by unfold wordI; rw [if_neg h1, itoa_word]
      rw [ew]
      unfold setP at ih
      rw [if_neg h1] at ih
      refine Ev.congr (fun k => ?_) ih
      simp only [readAll]
      rw [if_neg h1, readNumber_itoa _ (fldV_in ho c), Option.bind_some, if_pos rfl]
theorem shp_sizes (k : Int) : (bytesOf (shp k).2).length = (shp k).2.size := G.bytesOf_length _
theorem step_line (o : S29) (ho : okS o) : Ev (fun k => script_step.f k ((bytesOf (shp o.f0).1 :: (bytesOf (shp o.f0).2).map (wordI o.f0 o.f1 o.f2 o.f3 o.f4 o.f5 o.f6)).map strOfNums)) (tupB (plO o) true) := by
  rw [List.map_cons, str_bytesOf]
  obtain ⟨_, _, hc, _, h5⟩ := shapes o.f0
  have hlen : (((bytesOf (shp o.f0).2).map (wordI o.f0 o.f1 o.f2 o.f3 o.f4 o.f5 o.f6)).map strOfNums).length = (shp o.f0).2.size := by
    rw [List.length_map, List.length_map, shp_sizes]
  have hr := readAll_ev o ho (bytesOf (shp o.f0).2) [] hc
  rw [List.nil_append] at hr
  show Ev (fun k => stepC k (shp o.f0).1 _) _
  unfold stepC
  refine Ev.congr (fun k => if_pos (by rw [List.length_cons]; omega)) ?_
  by_cases hk : 1 ≤ o.f0 ∧ o.f0 ≤ 16
  · rw [kind_known o.f0 hk]
    refine Ev.congr (fun k => if_pos (beq_self_eq_true _)) (Ev.congr (fun k => if_pos hlen) ?_)
    obtain ⟨K, hK⟩ := hr
    refine ⟨K, fun k hk2 => ?_⟩
    show Option.map (stepEnd o.f0) (readAll k (bytesOf (shp o.f0).2) _ (plainL o.f0 o.f1 o.f2 o.f3 o.f4 o.f5 o.f6 [])) = _
    have hKK := hK k hk2
    dsimp only at hKK
    rw [hKK]
    show some (stepEnd o.f0 (some (plO o))) = _
    rw [stepEnd_good (.inl (by unfold knownI; simp; omega))]
  · obtain ⟨e1, _, _⟩ := out_of (a0 := o.f0) (by omega)
    rw [e1] at hlen ⊢
    have e0 : kindUpto opWord 16 = 0 := kind_op
    have es : shp 0 = (opWord, ⟨#[107]⟩) := (out_of (a0 := 0) (by omega)).1
    show Ev (fun k => if (shp (kindUpto opWord 16)).1.toList == opWord.toList then _ else _) _
    rw [e0, es]
    refine Ev.congr (fun k => if_pos (beq_self_eq_true _)) (Ev.congr (fun k => if_pos hlen) ?_)
    have ew : strOfNums (wordI o.f0 o.f1 o.f2 o.f3 o.f4 o.f5 o.f6 107) = itoaB o.f0 := by unfold wordI; rw [if_neg (by decide), itoa_word]; rfl
    have ep : plO o = ⟨o.f0, 0, 0, 0, ⟨#[]⟩, 0, 0⟩ := by
      unfold plO plainO
      rw [e1]
      show plainL _ _ _ _ _ _ _ [107] = _
      simp [plainL]
    refine Ev.congr (f := fun _ => some (tupB (plO o) true)) (fun k => ?_) (Ev.now _)
    show Option.map (stepEnd 0) (readAll k [107] [strOfNums (wordI o.f0 o.f1 o.f2 o.f3 o.f4 o.f5 o.f6 107)] ⟨0, 0, 0, 0, ⟨#[]⟩, 0, 0⟩) = _
    rw [ew]
    simp only [readAll]
    rw [if_neg (by decide), readNumber_itoa _ ho.1, Option.bind_some, if_pos rfl]
    show some (stepEnd 0 (some ⟨o.f0, 0, 0, 0, ⟨#[]⟩, 0, 0⟩)) = _
    rw [stepEnd_good (.inr (by unfold knownI; simp; omega)), ep]
theorem line_size (o : S29) (ho : okS o) : (strOfNums (lineO o)).size ≤ 20000008 := by
  have h1 := line_len (show okO o.f0 o.f1 o.f2 o.f3 o.f4 o.f5 o.f6 from ho)
  have e : bytesOf (strOfNums (lineO o)) = lineI o.f0 o.f1 o.f2 o.f3 o.f4 o.f5 o.f6 := bytesOf_str _ (line_range _ _ _ _ _ _ _)
  rw [← G.bytesOf_length, e]
  exact h1
end Go.Proofs.YtlmdhpfggobogaaDoor.Pure
