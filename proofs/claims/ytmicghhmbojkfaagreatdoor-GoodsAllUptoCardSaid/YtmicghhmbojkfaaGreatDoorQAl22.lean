import Derived.Test.YtmicghhmbojkfaaGreatDoorQAl6
import Derived.Test.YtmicghhmbojkfaaGreatDoorQAl5
import Derived.Lib.OthersKept
/- goods.Clean answers, for every text, what the loop over its bytes makes of it (the runs of blanks, tabs, dashes, slashes and dots made one mark, small letters made large, a mark in front dropped), or its error. -/
namespace Go.Proofs.YtmicghhmbojkfaaGreatDoor.G
open Go.RowKit Go.Proofs.YtmicghhmbojkfaaGreatDoorW.PrintWords Go.Proofs.YtmicghhmbojkfaaGreatDoorW.PrintLast Go.Proofs.YtmicghhmbojkfaaGreatDoorW.PrintMore

/-- The loop over the bytes: what is out, and the mark that the run comes to (0: no run). -/
def cleanGo : List UInt8 → List Int → Int → List Int
  | [], out, _ => out
  | c :: t, out, m =>
    if (c.toNat : Int) = 46 then cleanGo t out 46
    else if (c.toNat : Int) = 32 ∨ (c.toNat : Int) = 9 ∨ (c.toNat : Int) = 95 ∨ (c.toNat : Int) = 47 ∨ (c.toNat : Int) = 45 then cleanGo t out (if m = 0 then 45 else m)
    else cleanGo t ((if m = 0 then out else out ++ [m]) ++ [if 97 ≤ (c.toNat : Int) ∧ (c.toNat : Int) ≤ 122 then (c.toNat : Int) - 32 else (c.toNat : Int)]) 0
def isMarkI (c : Int) : Bool := decide (c = 45 ∨ c = 46)
def dropMark (o : List Int) : List Int := match o with
  | [] => []
  | c :: t => if isMarkI c then t else c :: t
def cleanOut (s : ByteArray) : ByteArray := strOfNums (dropMark (cleanGo s.data.toList [] 0))
def wideByte (s : ByteArray) : Bool := s.data.toList.any fun c => decide (128 ≤ c.toNat)
def goods_Clean.f (a0 : ByteArray) : Option (ByteArray × Int) :=
  if 96 < a0.size then some (⟨#[]⟩, 21)
  else if wideByte a0 = true then some (⟨#[]⟩, 22)
  else (goods_Check.f 100 (cleanOut a0)).bind fun r => if r.2 = 0 then some (cleanOut a0, 0) else some (⟨#[]⟩, r.2)

theorem idx_wide (s : ByteArray) : ∀ (f pos : Nat), s.size ≤ pos + f → (decide (0 ≤ Lib.idxFuncFrom (fun r => decide (128 ≤ r)) true s f pos) = (s.data.toList.drop pos).any fun c => decide (128 ≤ c.toNat))
  | 0, pos, h => by
    have : s.data.toList.drop pos = [] := List.drop_eq_nil_of_le (by simpa using h)
    rw [this]; rfl
  | f + 1, pos, h => by
    unfold Lib.idxFuncFrom
    by_cases hp : pos < s.size
    · have hl : pos < s.data.toList.length := by simpa using hp
      rw [if_pos hp, List.drop_eq_getElem_cons hl, List.any_cons]
      have e : s.data.toList[pos]'hl = s[pos]'hp := rfl
      rw [e]
      by_cases hc : (s[pos]'hp).toNat < 128
      · rw [decode_ascii s pos hp hc]
        have h1 : ¬ (decide (128 ≤ (s[pos]'hp).toNat) = true) := by simpa using hc
        rw [if_neg h1, idx_wide s f (pos + 1) (by omega)]
        simp only [Bool.not_eq_true] at h1
        rw [h1, Bool.false_or]
      · have h1 := (decode_high s pos hp (by omega)).1
        rw [if_pos (by simpa using h1)]
        have h2 : decide (128 ≤ (s[pos]'hp).toNat) = true := by simp; omega
        rw [h2, Bool.true_or]
        simp
    · rw [if_neg hp]
      have : s.data.toList.drop pos = [] := List.drop_eq_nil_of_le (by simp; omega)
      rw [this]; rfl
theorem idx_wide0 (s : ByteArray) : decide (0 ≤ Lib.idxFunc (fun r => decide (128 ≤ r)) true s) = wideByte s := by
  unfold Lib.idxFunc wideByte
  rw [idx_wide s s.size 0 (by omega)]
  rfl

theorem wide_pred (w : World) : PredAt Tryz.prog 73 #[] encR (fun r => decide (128 ≤ r)) w := fun W r _ => by
  unfold FnGives
  have e : decide ((128 : Int) ≤ (r : Int)) = decide (128 ≤ r) := by
    by_cases h : 128 ≤ r
    · rw [decide_eq_true h, decide_eq_true (by omega)]
    · rw [decide_eq_false h, decide_eq_false (by omega)]
  have E := Aside0.mk e
  clear e
  go_enter Tryz.func73, Tryz.ntmps73
  go_wp2
  go_ret
  exact ⟨by simp; omega, 0, rfl⟩
set_option maxHeartbeats 400000 in
set_option maxRecDepth 100000 in
theorem clean_long (a0 : ByteArray) (w : World) (h : 96 < a0.size) :
    Calls Tryz.prog 42 #[.string a0] w fun e w' => e = .returned (.tuple #[.string ⟨#[]⟩, .int .i64 21]) ∧ Below w.heap.size w w' := by
  go_enter Tryz.func42, Tryz.ntmps42
  go_wp2
  go_ret2
  exact ⟨rfl, Below.refl _ _⟩
set_option maxHeartbeats 400000 in
set_option maxRecDepth 100000 in
theorem clean_wide (a0 : ByteArray) (w : World) (h : a0.size ≤ 96) (hw : wideByte a0 = true) :
    Calls Tryz.prog 42 #[.string a0] w fun e w' => e = .returned (.tuple #[.string ⟨#[]⟩, .int .i64 22]) ∧ Below w.heap.size w w' := by
  have hC := fun W => Tryz.strings_ContainsFunc 73 #[] (enters_of Tryz.func73 (by kernel_rfl) rfl) _ a0 W (wide_pred W)
  rw [idx_wide0, hw] at hC
  clear hw
  have h1 : ¬ 96 < a0.size := by omega
  go_enter Tryz.func42, Tryz.ntmps42
  go_wp2_with (go_at_call 72; refine (hC _).mono ?_; rintro e w' ⟨rfl, hb⟩)
  go_ret2
  exact ⟨rfl, hb⟩
theorem dropMark_at (o : List Int) (h : 0 < o.length) : dropMark o = if isMarkI (rd o 0) = true then o.drop 1 else o := by
  cases o with
  | nil => simp at h
  | cons x t => simp only [dropMark, rd, List.drop_succ_cons, List.drop_zero]; rfl
theorem R_iter {α : Type} {d : Kd α} {e base k : Nat} {w : World} {v : Value} {xs : List α} {s : ByteArray} {pos : Nat} (h : d.R e w base (fun _ => True) v xs) (hk : w.heap[k]? = some (.stringIter s pos)) (pos' : Nat) :
    d.R e (w.iterAt k s pos') base (fun _ => True) v xs :=
  Kd.R_mono (Kd.R_move (Kd.R_bound h) (fun j hj => Lib.iterAt_other w k j s pos' (by rintro rfl; obtain ⟨_, _, _, q, _, cells, hc⟩ := hj; rw [hk] at hc; cases hc))) (fun _ _ => trivial)
theorem iter_kept {α : Type} {d : Kd α} {e base k : Nat} {w w1 : World} {v : Value} {xs : List α} {s : ByteArray} {pos : Nat} (h : d.R e w base (fun _ => True) v xs) (hk : w.heap[k]? = some (.stringIter s pos)) (hg : w.grownBy w1 v.ownBlock) :
    w1.heap[k]? = some (.stringIter s pos) :=
  (hg.block k (Array.getElem?_eq_some_iff.1 hk).1 (fun e => by obtain ⟨cells, hc⟩ := Kd.R_typed h k e.symm; rw [hk] at hc; cases hc)).trans hk
set_option maxHeartbeats 400000 in
set_option maxRecDepth 100000 in
theorem clean_loop (a0 : ByteArray) (w : World) (h : a0.size ≤ 96) (hw : wideByte a0 = false) (r1 r2 : Int) (hck : goods_Check.f 100 (cleanOut a0) = some (r1, r2)) :
    Calls Tryz.prog 42 #[.string a0] w fun e w' => e = .returned (.tuple #[.string (if r2 = 0 then cleanOut a0 else ⟨#[]⟩), .int .i64 r2]) ∧ Below w.heap.size w w' := by
  have hC := fun W => Tryz.strings_ContainsFunc 73 #[] (enters_of Tryz.func73 (by kernel_rfl) rfl) _ a0 W (wide_pred W)
  rw [idx_wide0, hw] at hC
  have HW := Aside0.mk hw
  clear hw
  have HC := Aside0.mk hck
  clear hck
  have h1 : ¬ 96 < a0.size := by omega
  go_enter Tryz.func42, Tryz.ntmps42
  go_wp2_with (go_at_call 72; refine (hC _).mono ?_; rintro e w1 ⟨rfl, hb⟩)
  have HB := Aside0.mk hb
  clear hb hC
  have hbyte : ∀ (pos : Nat) (hp : pos < a0.size), (a0[pos]'hp).toNat < 128 := by
    intro pos hp
    have hx := HW.out
    unfold wideByte at hx
    rw [List.any_eq_false] at hx
    have := hx (a0[pos]'hp) (by rw [← show a0.data.toList[pos]'(by simpa using hp) = a0[pos]'hp from rfl]; exact List.getElem_mem _)
    simpa using this
  have HY := Aside0.mk hbyte
  obtain ⟨FIN, hFIN⟩ : ∃ F, cleanGo a0.data.toList [] 0 = F := ⟨_, rfl⟩
  have HF := Aside0.mk hFIN
  clear hFIN
  clear hbyte
  go_loopw [4, 5] (fun v4 v5 wr => ∃ (pos : Nat) (out : List Int) (m : Int), v5 = .int .u8 m ∧ Aside0 (pos ≤ a0.size) ∧ Aside0 (Kd.R (Kd.int .u8) 5 wr w1.heap.size (fun _ => True) v4 out) ∧ Aside0 (wr.heap[w1.heap.size]? = some (.stringIter a0 pos)) ∧ Aside0 (Below w1.heap.size w1 wr) ∧ Aside0 (cleanGo (a0.data.toList.drop pos) out m = FIN) ∧ Aside0 (out.length ≤ 2 * pos) ∧ Aside0 (m = 0 ∨ m = 45 ∨ m = 46)) (fun _ _ wr => a0.size - wr.iterPos w1.heap.size)
  case atStart => exact ⟨0, [], 0, rfl, ⟨by omega⟩, ⟨Kd.R_nil _ _ _ _ _⟩, ⟨World.iter_heap w1 a0 0⟩, ⟨(Below.refl _ _).alloc (Nat.le_refl _) _⟩, HF, ⟨by simp⟩, ⟨.inl rfl⟩⟩
  case round =>
    obtain ⟨pos, out, m, rfl, HP, HO, HI, HBW, HG, HL, HM⟩ := hrel
    by_cases hp : pos < a0.size
    · have hc128 := HY.out pos hp
      have hdrop : a0.data.toList.drop pos = (a0[pos]'hp) :: a0.data.toList.drop (pos + 1) := List.drop_eq_getElem_cons (by simpa using hp)
      have hnx : ∀ ty, (Instr.next (.pointer (some ⟨w1.heap.size, 0, none⟩)) true ty).run Tryz.prog wr = _ := fun ty => Lib.run_next_ascii_at wr w1.heap.size a0 pos ty HI.out hp hc128
      have HO2 := R_iter HO.out HI.out (pos + 1)
      have HI2 := Lib.iterAt_heap wr w1.heap.size a0 pos (pos + 1) HI.out
      have HB2 := Lib.below_iterAt HBW.out (k := w1.heap.size) (Nat.le_refl _) a0 (pos + 1)
      have HG2 := HG.out
      rw [hdrop] at HG2
      obtain ⟨W2, hW2⟩ : ∃ W, wr.iterAt w1.heap.size a0 (pos + 1) = W := ⟨_, rfl⟩
      rw [hW2] at hnx HO2 HI2 HB2
      obtain ⟨cu, hcu⟩ : ∃ cu, a0[pos]'hp = cu := ⟨_, rfl⟩
      rw [hcu] at hnx hc128 HG2
      obtain ⟨c, hc⟩ : ∃ c, cu.toNat = c := ⟨_, rfl⟩
      unfold cleanGo at HG2
      rw [hc] at hnx hc128 HG2
      have HPl := hp
      have HLl := HL.out
      replace HI2 := Aside0.mk HI2
      replace HO2 := Aside0.mk HO2
      replace HB2 := Aside0.mk HB2
      have HI0 := Aside0.mk HI.out
      clear hW2 hcu hc hdrop HG HI HO HBW
      by_cases h46 : c = 46
      · subst h46
        rw [if_pos (by decide)] at HG2
        replace HG2 := Aside0.mk HG2
        go_wp2
        go_roundw
        case rel => exact ⟨pos + 1, out, 46, rfl, ⟨by omega⟩, HO2, HI2, HB2, HG2, ⟨by omega⟩, ⟨.inr (.inr rfl)⟩⟩
        case measure => simp only [World.iterPos, HI2.out, HI0.out]; omega
      · rw [if_neg (by omega)] at HG2
        have b46 : ((c : Int) == 46) = false := by simp; omega
        by_cases hd : c = 32 ∨ c = 9 ∨ c = 95 ∨ c = 47 ∨ c = 45
        · rw [if_pos (by omega)] at HG2
          replace HG2 := Aside0.mk HG2
          by_cases hm : m = 0
          · subst hm
            rw [if_pos rfl] at HG2
            rcases hd with rfl | rfl | rfl | rfl | rfl
            all_goals
              go_wp2
              go_roundw
              case rel => exact ⟨pos + 1, out, 45, rfl, ⟨by omega⟩, HO2, HI2, HB2, HG2, ⟨by omega⟩, ⟨.inr (.inl rfl)⟩⟩
              case measure => simp only [World.iterPos, HI2.out, HI0.out]; omega
          · have bm : (m == 0) = false := by simpa using hm
            rw [if_neg hm] at HG2
            rcases hd with rfl | rfl | rfl | rfl | rfl
            all_goals
              go_wp2
              go_roundw
              case rel => exact ⟨pos + 1, out, m, rfl, ⟨by omega⟩, HO2, HI2, HB2, HG2, ⟨by omega⟩, HM⟩
              case measure => simp only [World.iterPos, HI2.out, HI0.out]; omega
        · rw [if_neg (by omega)] at HG2
          have b32 : ((c : Int) == 32) = false := by simp; omega
          have b9 : ((c : Int) == 9) = false := by simp; omega
          have b95 : ((c : Int) == 95) = false := by simp; omega
          have b47 : ((c : Int) == 47) = false := by simp; omega
          have b45 : ((c : Int) == 45) = false := by simp; omega
          clear hd
          by_cases hm : m = 0
          · subst hm
            rw [if_pos rfl] at HG2
            by_cases hs : 97 ≤ c ∧ c ≤ 122
            · rw [if_pos (by omega)] at HG2
              replace HG2 := Aside0.mk HG2
              obtain ⟨hs1, hs2⟩ := hs
              go_wp2_with (first | ((with_reducible refine gate_builtin (b := .append) (xs := #[.tmp 45, .tmp 48]) rfl ?_); at_builtin; refine Kd.R_append (Kd.int .u8) (w0 := w1) w1.heap.size rfl (.tmp 45) (.tmp 48) 75 5 (.int .u8 0) 1 rfl Tryz.underlying75 info5 rfl (by decide) (by omega) u4 out ((c : Int) - 32) [.int .u8 ((c : Int) - 32)] (fun _ => True) (fun _ => False) rfl rfl rfl (fun _ hk => hk.elim) (fun _ _ => trivial) HO2.out HB2.out (below_size HB2.out) (by (try simp only [List.length_append, List.length_cons, List.length_nil]); omega) ?_; intro v3 w3 ho hb hg _; have HO3 := Aside0.mk ho; have HB3 := Aside0.mk hb; have HI3 := Aside0.mk (iter_kept HO2.out HI2.out hg); clear ho hb hg))
              all_goals
                go_roundw
                case rel => exact ⟨pos + 1, _, 0, rfl, ⟨by omega⟩, HO3, HI3, HB3, HG2, ⟨by simp only [List.length_append, List.length_cons, List.length_nil]; omega⟩, ⟨.inl rfl⟩⟩
                case measure => simp only [World.iterPos, HI3.out, HI0.out]; omega
            · rw [if_neg (by omega)] at HG2
              replace HG2 := Aside0.mk HG2
              rcases Nat.lt_or_ge c 97 with hs1 | hs1
              · go_wp2_with (first | ((with_reducible refine gate_builtin (b := .append) (xs := #[.tmp 45, .tmp 48]) rfl ?_); at_builtin; refine Kd.R_append (Kd.int .u8) (w0 := w1) w1.heap.size rfl (.tmp 45) (.tmp 48) 75 5 (.int .u8 0) 1 rfl Tryz.underlying75 info5 rfl (by decide) (by omega) u4 out (c : Int) [.int .u8 (c : Int)] (fun _ => True) (fun _ => False) rfl rfl rfl (fun _ hk => hk.elim) (fun _ _ => trivial) HO2.out HB2.out (below_size HB2.out) (by (try simp only [List.length_append, List.length_cons, List.length_nil]); omega) ?_; intro v3 w3 ho hb hg _; have HO3 := Aside0.mk ho; have HB3 := Aside0.mk hb; have HI3 := Aside0.mk (iter_kept HO2.out HI2.out hg); clear ho hb hg))
                all_goals
                  go_roundw
                  case rel => exact ⟨pos + 1, _, 0, rfl, ⟨by omega⟩, HO3, HI3, HB3, HG2, ⟨by simp only [List.length_append, List.length_cons, List.length_nil]; omega⟩, ⟨.inl rfl⟩⟩
                  case measure => simp only [World.iterPos, HI3.out, HI0.out]; omega
              · have hs2 : 122 < c := by omega
                go_wp2_with (first | ((with_reducible refine gate_builtin (b := .append) (xs := #[.tmp 45, .tmp 48]) rfl ?_); at_builtin; refine Kd.R_append (Kd.int .u8) (w0 := w1) w1.heap.size rfl (.tmp 45) (.tmp 48) 75 5 (.int .u8 0) 1 rfl Tryz.underlying75 info5 rfl (by decide) (by omega) u4 out (c : Int) [.int .u8 (c : Int)] (fun _ => True) (fun _ => False) rfl rfl rfl (fun _ hk => hk.elim) (fun _ _ => trivial) HO2.out HB2.out (below_size HB2.out) (by (try simp only [List.length_append, List.length_cons, List.length_nil]); omega) ?_; intro v3 w3 ho hb hg _; have HO3 := Aside0.mk ho; have HB3 := Aside0.mk hb; have HI3 := Aside0.mk (iter_kept HO2.out HI2.out hg); clear ho hb hg))
                all_goals
                  go_roundw
                  case rel => exact ⟨pos + 1, _, 0, rfl, ⟨by omega⟩, HO3, HI3, HB3, HG2, ⟨by simp only [List.length_append, List.length_cons, List.length_nil]; omega⟩, ⟨.inl rfl⟩⟩
                  case measure => simp only [World.iterPos, HI3.out, HI0.out]; omega
          · have bm : (m == 0) = false := by simpa using hm
            have bm2 : (m != 0) = true := by simpa using hm
            rw [if_neg hm] at HG2
            by_cases hs : 97 ≤ c ∧ c ≤ 122
            · rw [if_pos (by omega)] at HG2
              replace HG2 := Aside0.mk HG2
              obtain ⟨hs1, hs2⟩ := hs
              go_wp2_with (first | ((with_reducible refine gate_builtin (b := .append) (xs := #[.tmp 33, .tmp 35]) rfl ?_); at_builtin; refine Kd.R_append (Kd.int .u8) (w0 := w1) w1.heap.size rfl (.tmp 33) (.tmp 35) 75 5 (.int .u8 0) 1 rfl Tryz.underlying75 info5 rfl (by decide) (by omega) u4 out m [.int .u8 m] (fun _ => True) (fun _ => False) rfl rfl rfl (fun _ hk => hk.elim) (fun _ _ => trivial) HO2.out HB2.out (below_size HB2.out) (by (try simp only [List.length_append, List.length_cons, List.length_nil]); omega) ?_; intro v4 w4 ho hb hg _; have HO4 := Aside0.mk ho; have HB4 := Aside0.mk hb; have HI4 := Aside0.mk (iter_kept HO2.out HI2.out hg); clear ho hb hg) | ((with_reducible refine gate_builtin (b := .append) (xs := #[.tmp 45, .tmp 48]) rfl ?_); at_builtin; refine Kd.R_append (Kd.int .u8) (w0 := w1) w1.heap.size rfl (.tmp 45) (.tmp 48) 75 5 (.int .u8 0) 1 rfl Tryz.underlying75 info5 rfl (by decide) (by omega) v4 (out ++ [m]) ((c : Int) - 32) [.int .u8 ((c : Int) - 32)] (fun _ => True) (fun _ => False) rfl rfl rfl (fun _ hk => hk.elim) (fun _ _ => trivial) HO4.out HB4.out (below_size HB4.out) (by (try simp only [List.length_append, List.length_cons, List.length_nil]); omega) ?_; intro v3 w3 ho hb hg _; have HO3 := Aside0.mk ho; have HB3 := Aside0.mk hb; have HI3 := Aside0.mk (iter_kept HO4.out HI4.out hg); clear ho hb hg))
              all_goals
                go_roundw
                case rel => exact ⟨pos + 1, _, 0, rfl, ⟨by omega⟩, HO3, HI3, HB3, HG2, ⟨by simp only [List.length_append, List.length_cons, List.length_nil]; omega⟩, ⟨.inl rfl⟩⟩
                case measure => simp only [World.iterPos, HI3.out, HI0.out]; omega
            · rw [if_neg (by omega)] at HG2
              replace HG2 := Aside0.mk HG2
              rcases Nat.lt_or_ge c 97 with hs1 | hs1
              · go_wp2_with (first | ((with_reducible refine gate_builtin (b := .append) (xs := #[.tmp 33, .tmp 35]) rfl ?_); at_builtin; refine Kd.R_append (Kd.int .u8) (w0 := w1) w1.heap.size rfl (.tmp 33) (.tmp 35) 75 5 (.int .u8 0) 1 rfl Tryz.underlying75 info5 rfl (by decide) (by omega) u4 out m [.int .u8 m] (fun _ => True) (fun _ => False) rfl rfl rfl (fun _ hk => hk.elim) (fun _ _ => trivial) HO2.out HB2.out (below_size HB2.out) (by (try simp only [List.length_append, List.length_cons, List.length_nil]); omega) ?_; intro v4 w4 ho hb hg _; have HO4 := Aside0.mk ho; have HB4 := Aside0.mk hb; have HI4 := Aside0.mk (iter_kept HO2.out HI2.out hg); clear ho hb hg) | ((with_reducible refine gate_builtin (b := .append) (xs := #[.tmp 45, .tmp 48]) rfl ?_); at_builtin; refine Kd.R_append (Kd.int .u8) (w0 := w1) w1.heap.size rfl (.tmp 45) (.tmp 48) 75 5 (.int .u8 0) 1 rfl Tryz.underlying75 info5 rfl (by decide) (by omega) v4 (out ++ [m]) (c : Int) [.int .u8 (c : Int)] (fun _ => True) (fun _ => False) rfl rfl rfl (fun _ hk => hk.elim) (fun _ _ => trivial) HO4.out HB4.out (below_size HB4.out) (by (try simp only [List.length_append, List.length_cons, List.length_nil]); omega) ?_; intro v3 w3 ho hb hg _; have HO3 := Aside0.mk ho; have HB3 := Aside0.mk hb; have HI3 := Aside0.mk (iter_kept HO4.out HI4.out hg); clear ho hb hg))
                all_goals
                  go_roundw
                  case rel => exact ⟨pos + 1, _, 0, rfl, ⟨by omega⟩, HO3, HI3, HB3, HG2, ⟨by simp only [List.length_append, List.length_cons, List.length_nil]; omega⟩, ⟨.inl rfl⟩⟩
                  case measure => simp only [World.iterPos, HI3.out, HI0.out]; omega
              · have hs2 : 122 < c := by omega
                go_wp2_with (first | ((with_reducible refine gate_builtin (b := .append) (xs := #[.tmp 33, .tmp 35]) rfl ?_); at_builtin; refine Kd.R_append (Kd.int .u8) (w0 := w1) w1.heap.size rfl (.tmp 33) (.tmp 35) 75 5 (.int .u8 0) 1 rfl Tryz.underlying75 info5 rfl (by decide) (by omega) u4 out m [.int .u8 m] (fun _ => True) (fun _ => False) rfl rfl rfl (fun _ hk => hk.elim) (fun _ _ => trivial) HO2.out HB2.out (below_size HB2.out) (by (try simp only [List.length_append, List.length_cons, List.length_nil]); omega) ?_; intro v4 w4 ho hb hg _; have HO4 := Aside0.mk ho; have HB4 := Aside0.mk hb; have HI4 := Aside0.mk (iter_kept HO2.out HI2.out hg); clear ho hb hg) | ((with_reducible refine gate_builtin (b := .append) (xs := #[.tmp 45, .tmp 48]) rfl ?_); at_builtin; refine Kd.R_append (Kd.int .u8) (w0 := w1) w1.heap.size rfl (.tmp 45) (.tmp 48) 75 5 (.int .u8 0) 1 rfl Tryz.underlying75 info5 rfl (by decide) (by omega) v4 (out ++ [m]) (c : Int) [.int .u8 (c : Int)] (fun _ => True) (fun _ => False) rfl rfl rfl (fun _ hk => hk.elim) (fun _ _ => trivial) HO4.out HB4.out (below_size HB4.out) (by (try simp only [List.length_append, List.length_cons, List.length_nil]); omega) ?_; intro v3 w3 ho hb hg _; have HO3 := Aside0.mk ho; have HB3 := Aside0.mk hb; have HI3 := Aside0.mk (iter_kept HO4.out HI4.out hg); clear ho hb hg))
                all_goals
                  go_roundw
                  case rel => exact ⟨pos + 1, _, 0, rfl, ⟨by omega⟩, HO3, HI3, HB3, HG2, ⟨by simp only [List.length_append, List.length_cons, List.length_nil]; omega⟩, ⟨.inl rfl⟩⟩
                  case measure => simp only [World.iterPos, HI3.out, HI0.out]; omega
    · have hd : a0.data.toList.drop pos = [] := List.drop_eq_nil_of_le (by simp; omega)
      have HG2 := HG.out
      rw [hd] at HG2
      have hnx : ∀ ty, (Instr.next (.pointer (some ⟨w1.heap.size, 0, none⟩)) true ty).run Tryz.prog wr = _ := fun ty => Lib.run_next_end_at wr w1.heap.size a0 pos ty HI.out hp
      change out = FIN at HG2
      subst HG2
      have HK : goods_Check.f 100 (strOfNums (dropMark out)) = some (r1, r2) := by
        have := HC.out
        unfold cleanOut at this
        rw [HF.out] at this
        exact this
      have HR : strOfNums (dropMark out) = cleanOut a0 := by unfold cleanOut; rw [HF.out]
      have HB9 := Aside0.mk ((below_step (w := w) HB.out HBW.out))
      obtain ⟨A, cc, rfl, hlc, hC⟩ := Kd.R_reads HO.out
      have HQ := Aside0.mk (Kd.Q_of_R HO.out)
      have HCC := Aside0.mk hC
      have HKK := Aside0.mk HK
      have HRR := Aside0.mk HR
      have HLC := Aside0.mk hlc
      clear HK HR hC HO HG hd hlc HI HBW HY HW HC HF HB
      have hcvA : ∀ (W : World) (B : Option Addr) (n c : Nat) (ys : List Int), (Kd.int .u8).C W B n ys → (convert 75 9 (.slice B n c)).run Tryz.prog W = .ok (.string (strOfNums ys)) W := fun W B n c ys hh => Kd.C_string Tryz.underlying75 Tryz.underlying5 Tryz.underlying9 hh
      have HCV := Aside0.mk hcvA
      clear hcvA
      by_cases hz : out = []
      · subst hz
        have hcv0 := HCV.out wr A 0 cc [] HCC.out
        have hcv1 := fun n => HCV.out (wr.drewN n) A 0 cc [] (Kd.C_drewN HCC.out n)
        have hlen : ([] : List Int).length = 0 := rfl
        by_cases hr : r2 = 0
        · subst hr
          go_wp2_with (go_at_call 9; refine (goods_Check.calls 100 _ r1 0 _ HKK.out).mono ?_; rintro e W' ⟨rfl, ⟨nq, rfl⟩⟩)
          go_ret2
          exact ⟨by rw [← HRR.out]; rfl, pw_below_drewN HB9.out _⟩
        · have br : (r2 != 0) = true := by simpa using hr
          go_wp2_with (go_at_call 9; refine (goods_Check.calls 100 _ r1 r2 _ HKK.out).mono ?_; rintro e W' ⟨rfl, ⟨nq, rfl⟩⟩)
          go_ret2
          exact ⟨rfl, pw_below_drewN HB9.out _⟩
      · have hpos : 0 < out.length := List.length_pos_iff.2 hz
        have hdm := dropMark_at out hpos
        rw [hdm] at HKK HRR
        clear hdm hz
        have hAt : ∃ ad, A = some ad ∧ wr.cell? (ad.add 0) = some (.int .u8 (rd out 0)) := by
          obtain ⟨ad, e, hx⟩ := Kd.at_int HCC.out 0 (by omega) (by omega)
          exact ⟨ad, e, hx⟩
        obtain ⟨ad, rfl, hx⟩ := hAt
        obtain ⟨x, hxx⟩ : ∃ x, rd out 0 = x := ⟨_, rfl⟩
        rw [hxx] at hx HKK HRR
        clear hxx
        have hx0 : wr.cell? ad = some (.int .u8 x) := by simpa [Addr.add] using hx
        have e45 : goods_isMark.f x = some (isMarkI x) := by
          unfold goods_isMark.f isMarkI
          by_cases h45 : x = 45
          · rw [if_pos h45]; simp [h45]
          · rw [if_neg h45]; simp [h45]; rfl
        have HMK := Aside0.mk e45
        clear e45
        by_cases hmk : isMarkI x = true
        · rw [hmk] at HMK
          rw [if_pos hmk] at HKK HRR
          obtain ⟨i5, hi5, hz0, hz1, hz2⟩ := info_parts info5
          have hcut : ∀ W : World, (Instr.slice 75 (.slice (some ad) out.length cc) (some (.int .i64 1)) none none).run Tryz.prog W = .ok (.slice (if cc = 1 then some ad else (some ad).map (·.add (1 * 1))) (out.length - 1) (cc - 1)) W :=
            fun W => cut_from 75 5 .i64 Tryz.underlying75 hi5 1 hz1 (some ad) out.length cc 1 (by omega) (by omega) W
          have hqd := Kd.Q_drop HQ.out (k := 1) (by omega)
          obtain ⟨hq1, hq2, hq3⟩ := Kd.Q_reads' hqd
          rw [← hq1] at hq3
          have hsz1 : (Kd.int .u8).sz = 1 := rfl
          rw [hsz1] at hq3
          obtain ⟨B, hB⟩ : ∃ B, (if cc = 1 then some ad else (some ad).map (·.add (1 * 1))) = B := ⟨_, rfl⟩
          rw [hB] at hcut hq3
          have hcv1 := fun n => HCV.out (wr.drewN n) B (out.length - 1) (cc - 1) (out.drop 1) (Kd.C_drewN hq3 n)
          obtain ⟨O, hO⟩ : ∃ O, out.drop 1 = O := ⟨_, rfl⟩
          rw [hO] at hcv1 HKK HRR
          have HPOS := Aside0.mk hpos
          clear hqd hq1 hq2 hq3 hsz1 hB hO hmk hz0 hz1 hz2 hi5 HQ
          by_cases hr : r2 = 0
          · subst hr
            go_wp2_with (first | (go_at_call 19; refine (goods_isMark.calls x true _ HMK.out).mono ?_; rintro e W' ⟨rfl, ⟨nq, rfl⟩⟩) | (go_at_call 9; refine (goods_Check.calls 100 _ r1 0 _ HKK.out).mono ?_; rintro e W' ⟨rfl, ⟨nq2, rfl⟩⟩))
            go_ret2
            exact ⟨by rw [← HRR.out]; rfl, by repeat (first | exact HB9.out | apply pw_below_drewN)⟩
          · have br : (r2 != 0) = true := by simpa using hr
            go_wp2_with (first | (go_at_call 19; refine (goods_isMark.calls x true _ HMK.out).mono ?_; rintro e W' ⟨rfl, ⟨nq, rfl⟩⟩) | (go_at_call 9; refine (goods_Check.calls 100 _ r1 r2 _ HKK.out).mono ?_; rintro e W' ⟨rfl, ⟨nq2, rfl⟩⟩))
            go_ret2
            exact ⟨rfl, by repeat (first | exact HB9.out | apply pw_below_drewN)⟩
        · have hmf : isMarkI x = false := by simpa using hmk
          rw [hmf] at HMK HKK HRR
          have hcv1 := fun n => HCV.out (wr.drewN n) (some ad) out.length cc out (Kd.C_drewN HCC.out n)
          clear hmf hmk
          by_cases hr : r2 = 0
          · subst hr
            go_wp2_with (first | (go_at_call 19; refine (goods_isMark.calls x false _ HMK.out).mono ?_; rintro e W' ⟨rfl, ⟨nq, rfl⟩⟩) | (go_at_call 9; refine (goods_Check.calls 100 _ r1 0 _ HKK.out).mono ?_; rintro e W' ⟨rfl, ⟨nq2, rfl⟩⟩))
            go_ret2
            exact ⟨by rw [← HRR.out]; rfl, by repeat (first | exact HB9.out | apply pw_below_drewN)⟩
          · have br : (r2 != 0) = true := by simpa using hr
            go_wp2_with (first | (go_at_call 19; refine (goods_isMark.calls x false _ HMK.out).mono ?_; rintro e W' ⟨rfl, ⟨nq, rfl⟩⟩) | (go_at_call 9; refine (goods_Check.calls 100 _ r1 r2 _ HKK.out).mono ?_; rintro e W' ⟨rfl, ⟨nq2, rfl⟩⟩))
            go_ret2
            exact ⟨rfl, by repeat (first | exact HB9.out | apply pw_below_drewN)⟩

theorem goods_Clean.calls (a0 : ByteArray) (r1 : ByteArray) (r2 : Int) (w : World) (h : goods_Clean.f a0 = some (r1, r2)) :
    Calls Tryz.prog 42 #[.string a0] w fun e w' => e = .returned (.tuple #[.string r1, .int .i64 r2]) ∧ Below w.heap.size w w' := by
  unfold goods_Clean.f at h
  by_cases h1 : 96 < a0.size
  · rw [if_pos h1] at h
    simp only [Option.some.injEq, Prod.mk.injEq] at h
    obtain ⟨rfl, rfl⟩ := h
    exact clean_long a0 w h1
  · rw [if_neg h1] at h
    by_cases h2 : wideByte a0 = true
    · rw [if_pos h2] at h
      simp only [Option.some.injEq, Prod.mk.injEq] at h
      obtain ⟨rfl, rfl⟩ := h
      exact clean_wide a0 w (by omega) h2
    · rw [if_neg h2] at h
      cases hc : goods_Check.f 100 (cleanOut a0) with
      | none => rw [hc] at h; simp at h
      | some p =>
        obtain ⟨p1, p2⟩ := p
        rw [hc] at h
        simp only [Option.bind_some] at h
        have := clean_loop a0 w (by omega) (by simpa using h2) p1 p2 hc
        by_cases hp : p2 = 0
        · rw [if_pos hp] at h this
          simp only [Option.some.injEq, Prod.mk.injEq] at h
          obtain ⟨rfl, rfl⟩ := h
          subst hp
          exact this
        · rw [if_neg hp] at h this
          simp only [Option.some.injEq, Prod.mk.injEq] at h
          obtain ⟨rfl, rfl⟩ := h
          exact this
end Go.Proofs.YtmicghhmbojkfaaGreatDoor.G
