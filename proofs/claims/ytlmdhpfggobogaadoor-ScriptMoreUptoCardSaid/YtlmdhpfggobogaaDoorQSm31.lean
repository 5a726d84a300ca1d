import Derived.Test.YtlmdhpfggobogaaDoorQSm30
import Derived.Test.YtlmdhpfggobogaaDoorQSm23
import Derived.Deep.RegionHeld3
namespace Go.Proofs.YtlmdhpfggobogaaDoor.G
open Go.RowKit Go.Proofs.YtlmdhpfggobogaaDoorW.PrintWords Go.Proofs.YtlmdhpfggobogaaDoorW.PrintLast Go.Proofs.YtlmdhpfggobogaaDoorW.PrintMore
attribute [local go_sem] max2_int min2_int max_two min_two max_three min_three max_four min_four
set_option linter.unusedVariables false
set_option linter.unusedSimpArgs false
theorem parsC_ops' : ∀ (L : List (List Int)) (i : Nat) (b : Bool) (h : S23) (ops : List S29), (Pure.parsC L i b h ops).2.2.2.2.2.2.1.length ≤ ops.length + L.length
  | [], i, b, h, ops => by
    unfold Pure.parsC
    split <;> simp [Pure.goodP, Pure.badP]
  | l :: t, i, b, h, ops => by
    have key : ∀ r, Pure.lineP b h ops l = some r → r.2.2.length ≤ ops.length + 1 := by
      intro r hr
      unfold Pure.lineP at hr
      repeat' split at hr
      all_goals first | (cases hr; done) | (have := Option.some.inj hr; subst this; simp)
    unfold Pure.parsC
    split
    · rename_i r hr
      have h1 := key r hr
      have h2 := parsC_ops' t (i + 1) r.1 r.2.1 r.2.2
      rw [List.length_cons]; omega
    · simp [Pure.badP]
theorem linesT_len' : ∀ (l cur : List Int), (Pure.linesT cur l).length ≤ l.length + 1
  | [], cur => by unfold Pure.linesT; split <;> simp
  | c :: t, cur => by
    unfold Pure.linesT
    split
    · have := linesT_len' t []; simp; omega
    · have := linesT_len' t (cur ++ [c]); simp; omega
theorem good_ops {s : ByteArray} {h : S23} {ops : List S29} (e : Pure.parsP s = Pure.goodP h ops) : ops.length ≤ s.size + 1 := by
  have h1 := parsC_ops' (Pure.linesT [] (bytesOf s)) 0 false zeroH []
  have h2 := linesT_len' (bytesOf s) []
  rw [bytesOf_length] at h2
  have h3 : (Pure.parsP s).2.2.2.2.2.2.1.length ≤ [].length + (Pure.linesT [] (bytesOf s)).length := h1
  rw [e] at h3
  have h4 : ops.length ≤ 0 + (Pure.linesT [] (bytesOf s)).length := h3
  omega
theorem R_other' {w w2 : World} {base g : Nat} {ok : Nat → Prop} {v : Value} {l : List S29} {cs : Array Value} (h : Kd.R k29 29 w base ok v l) (hb : w.heap[g]? = some (.cells cs 26 (0, 0))) (hk : ∀ k o, w.heap[k]? = some o → k ≠ g → w2.heap[k]? = some o) : Kd.R k29 29 w2 base ok v l :=
  Kd.R_mono (Kd.R_step (Kd.R_types h hb (by decide)) (fun k h1 h2 => by
    have e : w.heap[k]? = some w.heap[k] := Array.getElem?_eq_getElem h2
    rw [e, hk k _ e h1.2])) (fun _ hk => hk.1)
theorem R_set7 {w : World} {base g : Nat} {ok : Nat → Prop} {v : Value} {l : List S29} {cs : Array Value} (h : Kd.R k29 29 w base ok v l) (hb : w.heap[g]? = some (.cells cs 26 (0, 0))) (u0 u1 u2 u3 u4 u5 u6 : Value) : Kd.R k29 29 ((((((((w.setCell ⟨g, 0, none⟩ u0).setCell ⟨g, 1, none⟩ u1).setCell ⟨g, 2, none⟩ u2).setCell ⟨g, 3, none⟩ u3).setCell ⟨g, 4, none⟩ u4).setCell ⟨g, 5, none⟩ u5).setCell ⟨g, 6, none⟩ u6)) base ok v l :=
  Kd.R_mono (Kd.R_far (p := ⟨g, 6, none⟩) (Kd.R_far (p := ⟨g, 5, none⟩) (Kd.R_far (p := ⟨g, 4, none⟩) (Kd.R_far (p := ⟨g, 3, none⟩) (Kd.R_far (p := ⟨g, 2, none⟩) (Kd.R_far (p := ⟨g, 1, none⟩) (Kd.R_far (p := ⟨g, 0, none⟩) (Kd.R_types h hb (by decide)) (fun _ hk => hk.2) u0) (fun _ hk => hk.2) u1) (fun _ hk => hk.2) u2) (fun _ hk => hk.2) u3) (fun _ hk => hk.2) u4) (fun _ hk => hk.2) u5) (fun _ hk => hk.2) u6) (fun _ hk => hk.1)
theorem far_set7 {w : World} {g k : Nat} {t : TypeId} {cs : Array Value} (h : w.heap[k]? = some (.cells cs t (0, 0))) (hne : k ≠ g) (u0 u1 u2 u3 u4 u5 u6 : Value) : ((((((((w.setCell ⟨g, 0, none⟩ u0).setCell ⟨g, 1, none⟩ u1).setCell ⟨g, 2, none⟩ u2).setCell ⟨g, 3, none⟩ u3).setCell ⟨g, 4, none⟩ u4).setCell ⟨g, 5, none⟩ u5).setCell ⟨g, 6, none⟩ u6)).heap[k]? = some (.cells cs t (0, 0)) := by
  repeat (refine blk_far ?_ hne _)
  exact h
theorem blk_set7 {w : World} {g : Nat} {c0 c1 c2 c3 c4 c5 c6 : Value} (hb : w.heap[g]? = some (.cells #[c0, c1, c2, c3, c4, c5, c6] 26 (0, 0))) (u0 u1 u2 u3 u4 u5 u6 : Value) : ((((((((w.setCell ⟨g, 0, none⟩ u0).setCell ⟨g, 1, none⟩ u1).setCell ⟨g, 2, none⟩ u2).setCell ⟨g, 3, none⟩ u3).setCell ⟨g, 4, none⟩ u4).setCell ⟨g, 5, none⟩ u5).setCell ⟨g, 6, none⟩ u6)).heap[g]? = some (.cells #[u0, u1, u2, u3, u4, u5, u6] 26 (0, 0)) := by
  refine blk_put (cs := #[u0, u1, u2, u3, u4, u5, c6]) ?_ 6 _ rfl
  refine blk_put (cs := #[u0, u1, u2, u3, u4, c5, c6]) ?_ 5 _ rfl
  refine blk_put (cs := #[u0, u1, u2, u3, c4, c5, c6]) ?_ 4 _ rfl
  refine blk_put (cs := #[u0, u1, u2, c3, c4, c5, c6]) ?_ 3 _ rfl
  refine blk_put (cs := #[u0, u1, c2, c3, c4, c5, c6]) ?_ 2 _ rfl
  refine blk_put (cs := #[u0, c1, c2, c3, c4, c5, c6]) ?_ 1 _ rfl
  refine blk_put (cs := #[c0, c1, c2, c3, c4, c5, c6]) ?_ 0 _ rfl
  exact hb
theorem below_set7 {g : Nat} {w0 w : World} (hb : Below w0.heap.size w0 w) (hg : w0.heap.size ≤ g) (u0 u1 u2 u3 u4 u5 u6 : Value) : Below w0.heap.size w0 ((((((((w.setCell ⟨g, 0, none⟩ u0).setCell ⟨g, 1, none⟩ u1).setCell ⟨g, 2, none⟩ u2).setCell ⟨g, 3, none⟩ u3).setCell ⟨g, 4, none⟩ u4).setCell ⟨g, 5, none⟩ u5).setCell ⟨g, 6, none⟩ u6)) := by
  repeat (refine below_set ?_ hg)
  exact hb
theorem ops_cases (ln : ByteArray) : (∃ p : S29, Pure.opsP ln = (p.f0, p.f1, p.f2, p.f3, p.f4, p.f5, p.f6, 0) ∧ 10 ∉ bytesOf ln ∧ ∀ h ops, Pure.lineP true h ops (bytesOf ln) = some (true, h, ops ++ [p])) ∨
    (Pure.opsP ln = (0, 0, 0, 0, (⟨#[]⟩ : ByteArray), 0, 0, 17) ∧ (10 ∈ bytesOf ln ∨ (10 ∉ bytesOf ln ∧ silI (bytesOf ln) = true) ∨ (10 ∉ bytesOf ln ∧ silI (bytesOf ln) = false ∧ ∀ h ops, Pure.lineP true h ops (bytesOf ln) = none))) := by
  unfold Pure.opsP
  by_cases h10 : (10 : Int) ∈ bytesOf ln
  · rw [if_pos (.inl h10)]; exact .inr ⟨rfl, .inl h10⟩
  · by_cases hs : silI (bytesOf ln) = true
    · rw [if_pos (.inr hs)]; exact .inr ⟨rfl, .inr (.inl ⟨h10, hs⟩)⟩
    · rw [if_neg (fun e => e.elim h10 hs)]
      have hs2 : silI (bytesOf ln) = false := by simpa using hs
      cases hr : run false (bytesOf ln) .gap [] with
      | none => exact .inr ⟨rfl, .inr (.inr ⟨h10, hs2, fun h ops => by unfold Pure.lineP; rw [if_neg hs, hr]⟩)⟩
      | some r =>
        cases r with
        | nil => exact .inr ⟨rfl, .inr (.inr ⟨h10, hs2, fun h ops => by unfold Pure.lineP; rw [if_neg hs, hr]⟩)⟩
        | cons W ws =>
          show _ ∨ _
          simp only [Pure.opW, Pure.outO]
          by_cases hq : (Pure.stepP (strOfNums W) (ws.map strOfNums)).2.2.2.2.2.2.2 = true
          · rw [if_pos hq]
            refine .inl ⟨Pure.opOf (Pure.stepP (strOfNums W) (ws.map strOfNums)), rfl, h10, fun h ops => ?_⟩
            unfold Pure.lineP
            rw [if_neg hs, hr]
            dsimp only
            rw [if_pos rfl, if_pos hq]
          · rw [if_neg hq]
            refine .inr ⟨rfl, .inr (.inr ⟨h10, hs2, fun h ops => ?_⟩)⟩
            unfold Pure.lineP
            rw [if_neg hs, hr]
            dsimp only
            rw [if_pos rfl, if_neg hq]
theorem R_keep {w w2 : World} {base g : Nat} {ok : Nat → Prop} {v : Value} {l : List S29} (h : Kd.R k29 29 w base ok v l) (hne : ∀ k, v.ownBlock = some k → k ≠ g) (hk : ∀ k o, w.heap[k]? = some o → k ≠ g → w2.heap[k]? = some o) : Kd.R k29 29 w2 base ok v l :=
  Kd.R_mono (Kd.R_step (Kd.R_far1 h rfl (g := g) (fun e => hne g e.symm rfl)) (fun k h1 h2 => by
    have e : w.heap[k]? = some w.heap[k] := Array.getElem?_eq_getElem h2
    rw [e, hk k _ e h1.2])) (fun _ hk => hk.1)
theorem R_dr {w w2 : World} {base : Nat} {ok : Nat → Prop} {v : Value} {l : List S29} (hd : Drawn0 w w2) (h : Kd.R k29 29 w base ok v l) : Kd.R k29 29 w2 base ok v l := by
  obtain ⟨n, rfl⟩ := hd
  exact Kd.R_drewN h n
def barrowlaw24_ScriptMore.T7 : Bool × List (List Nat × List Nat) := (true, [([], []), ([0], [0]), ([], []), ([], []), ([3], [3]), ([2, 4], [2, 4]), ([], []), ([6, 5], [6]), ([7], [7]), ([5, 8, 7], [5, 8]), ([1, 9], [1, 9]), ([], []), ([11, 10, 9, 0, 1, 2, 3, 4, 5, 6, 7, 8, 9, 10, 11], [10, 11])])
def barrowlaw24_ScriptMore.B7 : List Nat := [0, 1, 0, 0, 8, 28, 0, 124, 252, 508, 1023, 0, 4095]
theorem barrowlaw24_ScriptMore.tab7 : rtab .any (opsOf Tryd.f10 7) = barrowlaw24_ScriptMore.T7 := by kernel_rfl
theorem barrowlaw24_ScriptMore.bits7 : waitsOk barrowlaw24_ScriptMore.T7.2 barrowlaw24_ScriptMore.B7 = true := by kernel_rfl
set_option maxHeartbeats 16000000 in
set_option maxRecDepth 100000 in
theorem barrowlaw24_ScriptMore.calls (s : ByteArray) (a1_0 a1_1 a1_2 a1_3 : Int) (a1_4 : ByteArray) (a1_5 a1_6 : Int) (ln : ByteArray) (w : World) (hTab : Aside0 (Tab w)) (hTabE : Aside0 (TabE w)) (hTabM : Aside0 (TabM w)) (hs : s.size ≤ 1048576) (ho : okO a1_0 a1_1 a1_2 a1_3 a1_4 a1_5 a1_6) (hl : ln.size ≤ 1048576) :
    Calls Tryd.prog 10 #[.string s, .agg #[.int .i64 a1_0, .int .i64 a1_1, .int .i64 a1_2, .int .i64 a1_3, .string a1_4, .int .i64 a1_5, .int .i64 a1_6], .string ln] w fun e w' => e = .returned (.bool true) ∧ Below w.heap.size w w' := by
  obtain ⟨kA, hA⟩ := Pure.awake_ev.rounds
  have HA := Aside0.mk hA
  obtain ⟨kS, hS⟩ := (Pure.parse_P s (by omega)).rounds
  clear hA
  rcases Pure.parsC_cases (Pure.linesT [] (bytesOf s)) 0 false zeroH [] with ⟨⟨t103, t104, t105, t106, t107, t108⟩, t109, hg⟩ | ⟨n, hb, _, _⟩
  case inr =>
    have hbad : Pure.parsP s = Pure.badP n := hb
    rw [hbad] at hS
    have HS := Aside0.mk (show script_Parse.f kS s = some (0, 0, 0, 0, 0, 0, [], (n : Int), 17) from hS)
    clear hS hb hbad hs ho hl
    have S1 : True := trivial
    have S2 : True := trivial
    have S3 : True := trivial
    have S4 : True := trivial
    have S5 : True := trivial
    have S6 : True := trivial
    have S7 : True := trivial
    have S8 : True := trivial
    have S9 : True := trivial
    go_enter Tryd.func10, Tryd.ntmps10
    go_wp2_with (first | (clear S1; (with_reducible refine gate_dst (N := 4) rfl ?_); refine box_event ?hg (N := 4) ?hd (cs := #[.int .i64 a1_0, .int .i64 a1_1, .int .i64 a1_2, .int .i64 a1_3, .string a1_4, .int .i64 a1_5, .int .i64 a1_6]) (t := 29) ?hr ?_; (case hd => rfl); (case hg => rfl); (case hr => first | (go_simp; done) | (go_simp; rfl)); intro gb101 hgo w1 hbox hb1; have n0 := Aside0.mk hbox; have n1 := Aside0.mk hb1; have n2 := Aside0.mk (show w.heap.size ≤ gb101 by rw [hgo]; exact Nat.le_refl _); clear hbox hb1 hgo) | (clear S2; go_at_call 16; refine (barrowlaw24_awake.calls kA true _ (tab_keep hTab n1.out) (tabE_keep hTabE n1.out) HA.out).mono ?_; rintro e w2 ⟨rfl, hb2⟩; have p0 := Aside0.mk (blk_below n0.out hb2); have p1 := Aside0.mk (below_step n1.out hb2); clear hb2) | (clear S3; go_at_call 23; refine (script_Parse.calls kS s 0 0 0 0 0 0 [] n 17 _ (tab_keep hTab p1.out) (tabE_keep hTabE p1.out) (tabM_keep hTabM p1.out) HS.out).mono ?_; rintro e w3 ⟨qv, rfl, hoo, hbb⟩; have qb := Aside0.mk (below_step p1.out hbb); have qo := Aside0.mk (Kd.R_lower hoo p1.out.size);  clear hoo hbb; obtain ⟨Ao22, co22, qe⟩ := Kd.R_slice qo.out; subst qe) | (clear S4; (with_reducible refine gate_dst (N := 7) rfl ?_); refine box_event ?hg (N := 7) ?hd (cs := #[.int .i64 0, .int .i64 0, .int .i64 0, .int .i64 0, .int .i64 0, .int .i64 0, .slice none 0 0]) (t := 26) ?hr ?_; (case hd => rfl); (case hg => rfl); (case hr => first | (go_simp; done) | (go_simp; rfl)); intro gb114 hgs w4 hbox hb4; have r0 := Aside0.mk hbox; have r1 := Aside0.mk (below_step qb.out hb4); have r2 := Aside0.mk (show w.heap.size ≤ gb114 by rw [hgs]; exact qb.out.size); clear hbox hb4 hgs) | (clear S5; refine st26at (g := gb114) rfl rfl rfl rfl rfl r0.out rfl rfl (by first | rfl | (simp [Value.oneCell'])) ?_; intro w5 h5 _ hb5; have s1 := Aside0.mk (hb5 _ _ r1.out r2.out); clear h5 hb5) | go_in)
    go_ret
    exact ⟨rfl, s1.out⟩
  case inl =>
    have hgood : Pure.parsP s = Pure.goodP ⟨t103, t104, t105, t106, t107, t108⟩ t109 := hg
    clear hg
    rw [hgood] at hS
    have HS := Aside0.mk (show script_Parse.f kS s = some (t103, t104, t105, t106, t107, t108, t109, 0, 0) from hS)
    have HG := Aside0.mk hgood
    have hol := good_ops hgood
    obtain ⟨X, hX⟩ : ∃ X, strOfNums (Pure.lineO ⟨a1_0, a1_1, a1_2, a1_3, a1_4, a1_5, a1_6⟩) = X := ⟨_, rfl⟩
    have HX := Aside0.mk (show script_PrintOp.f a1_0 a1_1 a1_2 a1_3 a1_4 a1_5 a1_6 = some X by rw [← hX]; exact if_pos ho)
    have hXs : X.size ≤ 20000008 := by rw [← hX]; exact Pure.line_size ⟨a1_0, a1_1, a1_2, a1_3, a1_4, a1_5, a1_6⟩ ho
    obtain ⟨t122, hops1⟩ : ∃ t122, t109 ++ [Pure.plO ⟨a1_0, a1_1, a1_2, a1_3, a1_4, a1_5, a1_6⟩] = t122 := ⟨_, rfl⟩
    have hj1 : Pure.parsP ((s ++ (⟨#[10]⟩ : ByteArray)) ++ X) = Pure.goodP ⟨t103, t104, t105, t106, t107, t108⟩ t122 := by rw [← hX, ← hops1]; exact Pure.join_op hgood ⟨a1_0, a1_1, a1_2, a1_3, a1_4, a1_5, a1_6⟩ ho
    have e10 : (⟨#[10]⟩ : ByteArray).size = 1 := rfl
    have hU1 : ((s ++ (⟨#[10]⟩ : ByteArray)) ++ X).size ≤ 1000000000 := by rw [ByteArray.size_append, ByteArray.size_append, e10]; omega
    obtain ⟨k1, h1⟩ := (Pure.parse_P _ hU1).rounds
    rw [hj1] at h1
    have H1 := Aside0.mk (show script_Parse.f k1 ((s ++ (⟨#[10]⟩ : ByteArray)) ++ X) = some (t103, t104, t105, t106, t107, t108, t122, 0, 0) from h1)
    have HOps1 := Aside0.mk hops1
    have HSL := Aside0.mk (show s.size ≤ 1048576 ∧ ln.size ≤ 1048576 ∧ t109.length ≤ s.size + 1 from ⟨hs, hl, hol⟩)
    have HO := Aside0.mk ho
    have f1 := eq_true (show s.size + 1 ≤ 9223372036854775807 by omega)
    have f2 := eq_false (show ¬ 9223372036854775807 < s.size + 1 by omega)
    have f3 := eq_true (show (s ++ (⟨#[10]⟩ : ByteArray)).size + X.size ≤ 9223372036854775807 by rw [ByteArray.size_append, e10]; omega)
    have f4 := eq_false (show ¬ 9223372036854775807 < (s ++ (⟨#[10]⟩ : ByteArray)).size + X.size by rw [ByteArray.size_append, e10]; omega)
    have f5 := eq_false (show ¬ 9223372036854775807 < s.size + (⟨#[10]⟩ : ByteArray).size + X.size by rw [e10]; omega)
    have f6 := eq_false (show ¬ 9223372036854775807 < s.size + 1 + X.size by omega)
    clear hX hXs hj1 hU1 h1 hops1 hS hgood hs hl hol ho e10
    have S1 : True := trivial
    have S2 : True := trivial
    have S3 : True := trivial
    have S4 : True := trivial
    have S5 : True := trivial
    have S6 : True := trivial
    have S7 : True := trivial
    have S8 : True := trivial
    have S9 : True := trivial
    go_enter Tryd.func10, Tryd.ntmps10
    go_wp2_with (first | (clear S1; (with_reducible refine gate_dst (N := 4) rfl ?_); refine box_event ?hg (N := 4) ?hd (cs := #[.int .i64 a1_0, .int .i64 a1_1, .int .i64 a1_2, .int .i64 a1_3, .string a1_4, .int .i64 a1_5, .int .i64 a1_6]) (t := 29) ?hr ?_; (case hd => rfl); (case hg => rfl); (case hr => first | (go_simp; done) | (go_simp; rfl)); intro gb101 hgo w1 hbox hb1; have n0 := Aside0.mk hbox; have n1 := Aside0.mk hb1; have n2 := Aside0.mk (show w.heap.size ≤ gb101 by rw [hgo]; exact Nat.le_refl _); clear hbox hb1 hgo) | (clear S2; go_at_call 16; refine (barrowlaw24_awake.calls kA true _ (tab_keep hTab n1.out) (tabE_keep hTabE n1.out) HA.out).mono ?_; rintro e w2 ⟨rfl, hb2⟩; have p0 := Aside0.mk (blk_below n0.out hb2); have p1 := Aside0.mk (below_step n1.out hb2); clear hb2) | (clear S3; go_at_call 23; refine (script_Parse.calls kS s t103 t104 t105 t106 t107 t108 t109 0 0 _ (tab_keep hTab p1.out) (tabE_keep hTabE p1.out) (tabM_keep hTabM p1.out) HS.out).mono ?_; rintro e w3 ⟨qv, rfl, hoo, hbb⟩; have qb := Aside0.mk (below_step p1.out hbb); have qo := Aside0.mk (Kd.R_lower (Kd.R_newB hoo (g := gb101) (o := .cells #[.int .i64 a1_0, .int .i64 a1_1, .int .i64 a1_2, .int .i64 a1_3, .string a1_4, .int .i64 a1_5, .int .i64 a1_6] 29 (0, 0)) p0.out) p1.out.size); have qx := Aside0.mk (blk_below p0.out hbb); clear hoo hbb; obtain ⟨Ao22, co22, qe⟩ := Kd.R_slice qo.out; subst qe) | (clear S4; (with_reducible refine gate_dst (N := 7) rfl ?_); refine box_event ?hg (N := 7) ?hd (cs := #[.int .i64 0, .int .i64 0, .int .i64 0, .int .i64 0, .int .i64 0, .int .i64 0, .slice none 0 0]) (t := 26) ?hr ?_; (case hd => rfl); (case hg => rfl); (case hr => first | (go_simp; done) | (go_simp; rfl)); intro gb114 hgs w4 hbox hb4; have r0 := Aside0.mk hbox; have r1 := Aside0.mk (below_step qb.out hb4); have r2 := Aside0.mk (show w.heap.size ≤ gb114 by rw [hgs]; exact qb.out.size); have r3 := Aside0.mk (blk_below qx.out hb4); have r4 := Aside0.mk (show gb101 ≠ gb114 by rw [hgs]; exact Nat.ne_of_lt (blk_lt qx.out)); have r5 := Aside0.mk (Kd.R_below qo.out hb4); clear hbox hb4 hgs) | (clear S5; refine st26at (g := gb114) rfl rfl rfl rfl rfl r0.out rfl rfl (by first | rfl | (simp [Value.oneCell'])) ?_; intro w5 h5 hk5 hb5; have s0 := Aside0.mk h5; have s1 := Aside0.mk (hb5 _ _ r1.out r2.out); have s2 := Aside0.mk (hk5 _ _ r3.out r4.out); have s3 := Aside0.mk (R_other' r5.out r0.out hk5); have co0 : w5.cell? ⟨gb101, 0, none⟩ = some (.int .i64 a1_0) := (by rw [Lib.cell_of_heap s2.out]; rfl); have co1 : w5.cell? ⟨gb101, 1, none⟩ = some (.int .i64 a1_1) := (by rw [Lib.cell_of_heap s2.out]; rfl); have co2 : w5.cell? ⟨gb101, 2, none⟩ = some (.int .i64 a1_2) := (by rw [Lib.cell_of_heap s2.out]; rfl); have co3 : w5.cell? ⟨gb101, 3, none⟩ = some (.int .i64 a1_3) := (by rw [Lib.cell_of_heap s2.out]; rfl); have co4 : w5.cell? ⟨gb101, 4, none⟩ = some (.string a1_4) := (by rw [Lib.cell_of_heap s2.out]; rfl); have co5 : w5.cell? ⟨gb101, 5, none⟩ = some (.int .i64 a1_5) := (by rw [Lib.cell_of_heap s2.out]; rfl); have co6 : w5.cell? ⟨gb101, 6, none⟩ = some (.int .i64 a1_6) := (by rw [Lib.cell_of_heap s2.out]; rfl); clear h5 hk5 hb5) | (clear S6; go_at_call 19; refine (script_PrintOp.calls a1_0 a1_1 a1_2 a1_3 a1_4 a1_5 a1_6 X _ (tab_keep hTab s1.out) HX.out).mono ?_; rintro e w6 ⟨rfl, hb6⟩; have t0 := Aside0.mk (blk_below s0.out hb6); have t1 := Aside0.mk (below_step s1.out hb6); have t2 := Aside0.mk (blk_below s2.out hb6); have t3 := Aside0.mk (Kd.R_below s3.out hb6); clear hb6) | (clear S7; go_at_call 23; refine (script_Parse.calls k1 ((s ++ (⟨#[10]⟩ : ByteArray)) ++ X) t103 t104 t105 t106 t107 t108 t122 0 0 _ (tab_keep hTab t1.out) (tabE_keep hTabE t1.out) (tabM_keep hTabM t1.out) H1.out).mono ?_; rintro e w7 ⟨uv, rfl, hoo, hbb⟩; have ub := Aside0.mk (below_step t1.out hbb); have uo := Aside0.mk (Kd.R_lower (Kd.R_newB (Kd.R_new' hoo (Kd.R_lt t3.out)) (g := gb101) (o := .cells #[.int .i64 a1_0, .int .i64 a1_1, .int .i64 a1_2, .int .i64 a1_3, .string a1_4, .int .i64 a1_5, .int .i64 a1_6] 29 (0, 0)) t2.out) t1.out.size); have u0 := Aside0.mk (blk_below t0.out hbb); have u2 := Aside0.mk (blk_below t2.out hbb); have u3 := Aside0.mk (Kd.R_elder' t3.out (Kd.R_base hoo) hbb); clear hoo hbb; obtain ⟨Ao30, co30, ue⟩ := Kd.R_slice uo.out; subst ue) | (clear S8; (with_reducible refine gate_dst (N := 10) rfl ?_); refine box_event ?hg (N := 10) ?hd (cs := #[.int .i64 0, .int .i64 0, .int .i64 0, .int .i64 0, .int .i64 0, .int .i64 0, .slice none 0 0]) (t := 26) ?hr ?_; (case hd => rfl); (case hg => rfl); (case hr => first | (go_simp; done) | (go_simp; rfl)); intro gb127 hgt w8 hbox hb8; have v0 := Aside0.mk (blk_below u0.out hb8); have v1 := Aside0.mk (below_step ub.out hb8); have v2 := Aside0.mk (blk_below u2.out hb8); have v3 := Aside0.mk (Kd.R_below u3.out hb8); have v4 := Aside0.mk hbox; have v5 := Aside0.mk (show w.heap.size ≤ gb127 by rw [hgt]; exact ub.out.size); have v6 := Aside0.mk (show gb101 ≠ gb127 by rw [hgt]; exact Nat.ne_of_lt (blk_lt u2.out)); have v7 := Aside0.mk (show gb114 ≠ gb127 by rw [hgt]; exact Nat.ne_of_lt (blk_lt u0.out)); have v8 := Aside0.mk (Kd.R_below uo.out hb8); clear hbox hb8 hgt) | (clear S9; refine st26at (g := gb127) rfl rfl rfl rfl rfl v4.out rfl rfl (by first | rfl | (simp [Value.oneCell'])) ?_; intro w31 h9 hk9 hb9; have x0 := Aside0.mk (hk9 _ _ v0.out v7.out); have x1 := Aside0.mk (hb9 _ _ v1.out v5.out); have x2 := Aside0.mk (hk9 _ _ v2.out v6.out); have x3 := Aside0.mk (R_other' v3.out v4.out hk9); have x4 := Aside0.mk h9; have x5 := Aside0.mk (R_other' v8.out v4.out hk9); clear h9 hk9 hb9 co0 co1 co2 co3 co4 co5 co6) | go_in)
    clear f1 f2 f3 f4 f5 f6
    have HSL2 := HSL.out
    obtain ⟨⟨t134, t135, t136, t137, t138, t139, t140⟩, hp⟩ : ∃ p : S29, Pure.plO ⟨a1_0, a1_1, a1_2, a1_3, a1_4, a1_5, a1_6⟩ = p := ⟨_, rfl⟩
    have A13 := Aside0.mk (show script_Plain.f a1_0 a1_1 a1_2 a1_3 a1_4 a1_5 a1_6 = some (t134, t135, t136, t137, t138, t139, t140) by
      show some (tupO (Pure.plO ⟨a1_0, a1_1, a1_2, a1_3, a1_4, a1_5, a1_6⟩)) = _
      rw [hp]; rfl)
    obtain ⟨y128, hy128⟩ : ∃ y_ : List S29, y_ = ([] : List S29) := ⟨_, rfl⟩
    obtain ⟨y131, hy131⟩ : ∃ y_ : List S29, y_ = y128 ++ t109 := ⟨_, rfl⟩
    obtain ⟨y141, hy141⟩ : ∃ y_ : List S29, y_ = [(⟨t134, t135, t136, t137, t138, t139, t140⟩ : S29)] := ⟨_, rfl⟩
    obtain ⟨y144, hy144⟩ : ∃ y_ : List S29, y_ = y131 ++ y141 := ⟨_, rfl⟩
    have LMc12 := Aside0.mk (show y128.length + t109.length < 2199023255552 by rw [hy128, List.length_nil]; omega)
    have LMc14 := Aside0.mk (show y131.length + y141.length < 2199023255552 by rw [hy131, hy128, hy141, List.nil_append, List.length_singleton]; omega)
    have HY := Aside0.mk (show y144 = t122 by rw [hy144, hy131, hy128, hy141, List.nil_append, ← HOps1.out, hp])
    have Ny128 := Aside0.mk hy128
    have Ny131 := Aside0.mk hy131
    have Ny141 := Aside0.mk hy141
    have Ny144 := Aside0.mk hy144
    clear hy128 hy131 hy141 hy144 hp HSL2
    have HO111 : Aside0 (Kd.R k29 29 w31 w.heap.size (fun k_ => some k_ ≠ (.slice Ao30 t122.length co30 : Value).ownBlock ∧ k_ ≠ gb101) (.slice Ao22 t109.length co22) t109) := ⟨Kd.R_mono x3.out (fun k hk => ⟨hk.2, hk.1.2⟩)⟩
    have HO124 : Aside0 (Kd.R k29 29 w31 w.heap.size (fun k_ => some k_ ≠ (.slice Ao22 t109.length co22 : Value).ownBlock ∧ k_ ≠ gb101) (.slice Ao30 t122.length co30) t122) := ⟨Kd.R_mono x5.out (fun k hk => ⟨hk.1.2, hk.2⟩)⟩
    have BK101 := x2
    have BK114 := x0
    have BK127 := x4
    have HB := x1
    have GE101 := n2
    have GE114 := r2
    have GE127 := v5
    have GW101 := n2
    have GW114 := r2
    have GW127 := v5
    have NB101_114 := r4
    have NB114_101 := Aside0.mk r4.out.symm
    have NB101_127 := v6
    have NB127_101 := Aside0.mk v6.out.symm
    have NB114_127 := v7
    have NB127_114 := Aside0.mk v7.out.symm
    have hu26 := Tryd.underlying26
    have hu23 := Tryd.underlying23
    have hu29 := Tryd.underlying29
    clear n0 n1 n2 p0 p1 qx qo qb r0 r1 r2 r3 r4 r5 s0 s1 s2 s3 t0 t1 t2 t3 u0 u2 u3 uo ub v0 v1 v2 v3 v4 v5 v6 v7 v8 x0 x1 x2 x3 x4 x5
    have n0_ := Aside0.mk (Kd.R_drew HO111.out)
    have n1_ := Aside0.mk (Kd.R_drew HO124.out)
    have n2_ := Aside0.mk (blk_drew BK101.out)
    have n3_ := Aside0.mk (blk_drew BK114.out)
    have n4_ := Aside0.mk (blk_drew BK127.out)
    have n5_ := Aside0.mk (below_drew1 HB.out)
    clear HO111
    clear HO124
    clear BK101
    clear BK114
    clear BK127
    clear HB
    have HO111 := n0_
    have HO124 := n1_
    have BK101 := n2_
    have BK114 := n3_
    have BK127 := n4_
    have HB := n5_
    clear n0_ n1_ n2_ n3_ n4_ n5_
    refine start_ (n := 13) (S := fun w' => w'.cell? ⟨gb114, 0, none⟩ = some (.int .i64 t103) ∧ w'.cell? ⟨gb114, 1, none⟩ = some (.int .i64 t104) ∧ w'.cell? ⟨gb114, 2, none⟩ = some (.int .i64 t105) ∧ w'.cell? ⟨gb114, 3, none⟩ = some (.int .i64 t106) ∧ w'.cell? ⟨gb114, 4, none⟩ = some (.int .i64 t107) ∧ w'.cell? ⟨gb114, 5, none⟩ = some (.int .i64 t108) ∧ w'.cell? ⟨gb114, 6, none⟩ = some (.slice Ao22 t109.length co22) ∧ w'.cell? ⟨gb101, 0, none⟩ = some (.int .i64 a1_0) ∧ w'.cell? ⟨gb101, 1, none⟩ = some (.int .i64 a1_1) ∧ w'.cell? ⟨gb101, 2, none⟩ = some (.int .i64 a1_2) ∧ w'.cell? ⟨gb101, 3, none⟩ = some (.int .i64 a1_3) ∧ w'.cell? ⟨gb101, 4, none⟩ = some (.string a1_4) ∧ w'.cell? ⟨gb101, 5, none⟩ = some (.int .i64 a1_5) ∧ w'.cell? ⟨gb101, 6, none⟩ = some (.int .i64 a1_6)) (ds := []) #[false, false, false, false, false, false, false, false, false, false, false, false, false] (by kernel_rfl) rfl rfl ⟨(blk_cell BK114.out 0).trans rfl, (blk_cell BK114.out 1).trans rfl, (blk_cell BK114.out 2).trans rfl, (blk_cell BK114.out 3).trans rfl, (blk_cell BK114.out 4).trans rfl, (blk_cell BK114.out 5).trans rfl, (blk_cell BK114.out 6).trans rfl, (blk_cell BK101.out 0).trans rfl, (blk_cell BK101.out 1).trans rfl, (blk_cell BK101.out 2).trans rfl, (blk_cell BK101.out 3).trans rfl, (blk_cell BK101.out 4).trans rfl, (blk_cell BK101.out 5).trans rfl, (blk_cell BK101.out 6).trans rfl⟩ (fun hHeld => ?_); refine with_tabW barrowlaw24_ScriptMore.tab7 barrowlaw24_ScriptMore.bits7 (fun HT_ HW_ => ?_)
    generalize w31.drew = w32 at HO111 HO124 BK101 BK114 BK127 HB hHeld ⊢
    refine pure_ (i := 0) (N := some 39) (v := ?_) (a' := ?_) #[true, false, false, false, false, false, false, false, false, false, false, false, false] rfl rfl (any_of HT_.out (by kernel_rfl)) (fun _ _ _ h => h) (Or.inl ⟨by rfl, ?_⟩) ?_ ?_
    rotate_left
    ·intro w'
     go_simp
     with_reducible rfl
    rotate_left
    ·simp only [Act.put, List.setIfInBounds_toArray, List.set_cons_zero, List.set_cons_succ, i64_w, i32_w]
     rfl
    refine pure_ (i := 3) (N := some 42) (v := ?_) (a' := ?_) #[true, false, false, true, false, false, false, false, false, false, false, false, false] rfl rfl (any_of HT_.out (by kernel_rfl)) (fun _ _ _ h => h) (Or.inl ⟨by rfl, ?_⟩) ?_ ?_
    rotate_left
    ·intro w'
     go_simp
     with_reducible rfl
    rotate_left
    ·simp only [Act.put, List.setIfInBounds_toArray, List.set_cons_zero, List.set_cons_succ, i64_w, i32_w]
     rfl
    refine take_ (i := 1) (N := some 40) (v := ?_) (a' := ?_) #[true, true, false, true, false, false, false, false, false, false, false, false, false] rfl rfl (take_ofW HT_.out HW_.out (by kernel_rfl)) (fun _ _ _ h => h) (Or.inl ⟨by rfl, ?_⟩) hHeld ?_ ?_
    rotate_left
    ·rintro w' ⟨s0, s1, s2, s3, s4, s5, s6, s7, s8, s9, s10, s11, s12, s13⟩
     go_simp
     with_reducible rfl
    rotate_left
    ·simp only [Act.put, List.setIfInBounds_toArray, List.set_cons_zero, List.set_cons_succ, i64_w, i32_w]
     rfl
    refine take_ (i := 4) (N := some 43) (v := ?_) (a' := ?_) #[true, true, false, true, true, false, false, false, false, false, false, false, false] rfl rfl (take_ofW HT_.out HW_.out (by kernel_rfl)) (fun _ _ _ h => h) (Or.inl ⟨by rfl, ?_⟩) hHeld ?_ ?_
    rotate_left
    ·rintro w' ⟨s0, s1, s2, s3, s4, s5, s6, s7, s8, s9, s10, s11, s12, s13⟩
     go_simp
     with_reducible rfl
    rotate_left
    ·simp only [Act.put, List.setIfInBounds_toArray, List.set_cons_zero, List.set_cons_succ, i64_w, i32_w]
     rfl
    refine take_ (i := 6) (N := some 45) (v := ?_) (a' := ?_) #[true, true, false, true, true, false, true, false, false, false, false, false, false] rfl rfl (take_ofW HT_.out HW_.out (by kernel_rfl)) (fun _ _ _ h => h) (Or.inl ⟨by rfl, ?_⟩) hHeld ?_ ?_
    rotate_left
    ·rintro w' ⟨s0, s1, s2, s3, s4, s5, s6, s7, s8, s9, s10, s11, s12, s13⟩
     go_simp
     with_reducible rfl
    rotate_left
    ·simp only [Act.put, List.setIfInBounds_toArray, List.set_cons_zero, List.set_cons_succ, i64_w, i32_w]
     rfl
    refine join_ (σ := Value × Value × Value × Value × Nat) 1 #[true, true, true, true, true, true, true, true, true, true, true, true, false] (fun s_ => [(41, s_.1), (44, s_.2.1), (46, .agg #[.int .i64 t134, .int .i64 t135, .int .i64 t136, .int .i64 t137, .string t138, .int .i64 t139, .int .i64 t140]), (47, s_.2.2.1), (48, s_.2.2.2.1), (12, .pointer (some ⟨s_.2.2.2.2, 0, none⟩)), (49, .agg #[.int .i64 t103, .int .i64 t104, .int .i64 t105, .int .i64 t106, .int .i64 t107, .int .i64 t108, s_.2.2.2.1])]) (fun s_ w' => (w'.cell? ⟨gb114, 0, none⟩ = some (.int .i64 t103) ∧ w'.cell? ⟨gb114, 1, none⟩ = some (.int .i64 t104) ∧ w'.cell? ⟨gb114, 2, none⟩ = some (.int .i64 t105) ∧ w'.cell? ⟨gb114, 3, none⟩ = some (.int .i64 t106) ∧ w'.cell? ⟨gb114, 4, none⟩ = some (.int .i64 t107) ∧ w'.cell? ⟨gb114, 5, none⟩ = some (.int .i64 t108) ∧ w'.cell? ⟨gb114, 6, none⟩ = some (.slice Ao22 t109.length co22) ∧ w'.cell? ⟨gb101, 0, none⟩ = some (.int .i64 a1_0) ∧ w'.cell? ⟨gb101, 1, none⟩ = some (.int .i64 a1_1) ∧ w'.cell? ⟨gb101, 2, none⟩ = some (.int .i64 a1_2) ∧ w'.cell? ⟨gb101, 3, none⟩ = some (.int .i64 a1_3) ∧ w'.cell? ⟨gb101, 4, none⟩ = some (.string a1_4) ∧ w'.cell? ⟨gb101, 5, none⟩ = some (.int .i64 a1_5) ∧ w'.cell? ⟨gb101, 6, none⟩ = some (.int .i64 a1_6)) ∧ (Kd.R k29 29 w' w.heap.size (fun k_ => some k_ ≠ (.slice Ao30 t122.length co30 : Value).ownBlock ∧ some k_ ≠ (s_.2.2.1 : Value).ownBlock ∧ some k_ ≠ (s_.2.2.2.1 : Value).ownBlock ∧ k_ ≠ gb101) (.slice Ao22 t109.length co22) t109) ∧ (Kd.R k29 29 w' w.heap.size (fun k_ => some k_ ≠ (.slice Ao22 t109.length co22 : Value).ownBlock ∧ some k_ ≠ (s_.2.2.1 : Value).ownBlock ∧ some k_ ≠ (s_.2.2.2.1 : Value).ownBlock ∧ k_ ≠ gb101) (.slice Ao30 t122.length co30) t122) ∧ (Kd.R k29 29 w' w.heap.size (fun k_ => some k_ ≠ (.slice Ao22 t109.length co22 : Value).ownBlock ∧ some k_ ≠ (.slice Ao30 t122.length co30 : Value).ownBlock ∧ some k_ ≠ (s_.2.2.2.1 : Value).ownBlock ∧ k_ ≠ gb101) s_.2.2.1 y141) ∧ (Kd.R k29 29 w' w.heap.size (fun k_ => some k_ ≠ (.slice Ao22 t109.length co22 : Value).ownBlock ∧ some k_ ≠ (.slice Ao30 t122.length co30 : Value).ownBlock ∧ some k_ ≠ (s_.2.2.1 : Value).ownBlock ∧ k_ ≠ gb101) s_.2.2.2.1 y144) ∧ (w'.heap[gb101]? = some (.cells #[.int .i64 a1_0, .int .i64 a1_1, .int .i64 a1_2, .int .i64 a1_3, .string a1_4, .int .i64 a1_5, .int .i64 a1_6] 29 (0, 0))) ∧ (w'.heap[gb114]? = some (.cells #[.int .i64 t103, .int .i64 t104, .int .i64 t105, .int .i64 t106, .int .i64 t107, .int .i64 t108, .slice Ao22 t109.length co22] 26 (0, 0))) ∧ (w'.heap[gb127]? = some (.cells #[.int .i64 t103, .int .i64 t104, .int .i64 t105, .int .i64 t106, .int .i64 t107, .int .i64 t108, .slice Ao30 t122.length co30] 26 (0, 0))) ∧ (w'.heap[s_.2.2.2.2]? = some (.cells #[.int .i64 0, .int .i64 0, .int .i64 0, .int .i64 0, .int .i64 0, .int .i64 0, .slice none 0 0] 26 (0, 0))) ∧ (w.heap.size ≤ s_.2.2.2.2) ∧ (w.heap.size ≤ s_.2.2.2.2) ∧ (gb101 ≠ s_.2.2.2.2) ∧ (s_.2.2.2.2 ≠ gb101) ∧ (gb114 ≠ s_.2.2.2.2) ∧ (s_.2.2.2.2 ≠ gb114) ∧ (gb127 ≠ s_.2.2.2.2) ∧ (s_.2.2.2.2 ≠ gb127) ∧ (Below w.heap.size w w')) ?_ ?_
    rotate_left
    ·intro hJ2_5_7_8_9_11
     refine join_ (σ := Value × Value × Value × Value) 2 #[true, true, true, true, true, true, true, true, true, true, true, false, false] (fun s_ => [(41, s_.1), (44, s_.2.1), (46, .agg #[.int .i64 t134, .int .i64 t135, .int .i64 t136, .int .i64 t137, .string t138, .int .i64 t139, .int .i64 t140]), (47, s_.2.2.1), (48, s_.2.2.2), (49, .agg #[.int .i64 t103, .int .i64 t104, .int .i64 t105, .int .i64 t106, .int .i64 t107, .int .i64 t108, s_.2.2.2])]) (fun s_ w' => (w'.cell? ⟨gb114, 0, none⟩ = some (.int .i64 t103) ∧ w'.cell? ⟨gb114, 1, none⟩ = some (.int .i64 t104) ∧ w'.cell? ⟨gb114, 2, none⟩ = some (.int .i64 t105) ∧ w'.cell? ⟨gb114, 3, none⟩ = some (.int .i64 t106) ∧ w'.cell? ⟨gb114, 4, none⟩ = some (.int .i64 t107) ∧ w'.cell? ⟨gb114, 5, none⟩ = some (.int .i64 t108) ∧ w'.cell? ⟨gb114, 6, none⟩ = some (.slice Ao22 t109.length co22) ∧ w'.cell? ⟨gb101, 0, none⟩ = some (.int .i64 a1_0) ∧ w'.cell? ⟨gb101, 1, none⟩ = some (.int .i64 a1_1) ∧ w'.cell? ⟨gb101, 2, none⟩ = some (.int .i64 a1_2) ∧ w'.cell? ⟨gb101, 3, none⟩ = some (.int .i64 a1_3) ∧ w'.cell? ⟨gb101, 4, none⟩ = some (.string a1_4) ∧ w'.cell? ⟨gb101, 5, none⟩ = some (.int .i64 a1_5) ∧ w'.cell? ⟨gb101, 6, none⟩ = some (.int .i64 a1_6)) ∧ (Kd.R k29 29 w' w.heap.size (fun k_ => some k_ ≠ (.slice Ao30 t122.length co30 : Value).ownBlock ∧ some k_ ≠ (s_.2.2.1 : Value).ownBlock ∧ some k_ ≠ (s_.2.2.2 : Value).ownBlock ∧ k_ ≠ gb101) (.slice Ao22 t109.length co22) t109) ∧ (Kd.R k29 29 w' w.heap.size (fun k_ => some k_ ≠ (.slice Ao22 t109.length co22 : Value).ownBlock ∧ some k_ ≠ (s_.2.2.1 : Value).ownBlock ∧ some k_ ≠ (s_.2.2.2 : Value).ownBlock ∧ k_ ≠ gb101) (.slice Ao30 t122.length co30) t122) ∧ (Kd.R k29 29 w' w.heap.size (fun k_ => some k_ ≠ (.slice Ao22 t109.length co22 : Value).ownBlock ∧ some k_ ≠ (.slice Ao30 t122.length co30 : Value).ownBlock ∧ some k_ ≠ (s_.2.2.2 : Value).ownBlock ∧ k_ ≠ gb101) s_.2.2.1 y141) ∧ (Kd.R k29 29 w' w.heap.size (fun k_ => some k_ ≠ (.slice Ao22 t109.length co22 : Value).ownBlock ∧ some k_ ≠ (.slice Ao30 t122.length co30 : Value).ownBlock ∧ some k_ ≠ (s_.2.2.1 : Value).ownBlock ∧ k_ ≠ gb101) s_.2.2.2 y144) ∧ (w'.heap[gb101]? = some (.cells #[.int .i64 a1_0, .int .i64 a1_1, .int .i64 a1_2, .int .i64 a1_3, .string a1_4, .int .i64 a1_5, .int .i64 a1_6] 29 (0, 0))) ∧ (w'.heap[gb114]? = some (.cells #[.int .i64 t103, .int .i64 t104, .int .i64 t105, .int .i64 t106, .int .i64 t107, .int .i64 t108, .slice Ao22 t109.length co22] 26 (0, 0))) ∧ (w'.heap[gb127]? = some (.cells #[.int .i64 t103, .int .i64 t104, .int .i64 t105, .int .i64 t106, .int .i64 t107, .int .i64 t108, .slice Ao30 t122.length co30] 26 (0, 0))) ∧ (Below w.heap.size w w')) ?_ ?_
     rotate_left
     ·intro hJ2_5_7_8_9
      refine join_ (σ := Value × Value × Value × Nat) 3 #[true, true, true, true, true, true, true, true, true, false, false, true, false] (fun s_ => [(41, s_.1), (44, s_.2.1), (46, .agg #[.int .i64 t134, .int .i64 t135, .int .i64 t136, .int .i64 t137, .string t138, .int .i64 t139, .int .i64 t140]), (47, s_.2.2.1), (12, .pointer (some ⟨s_.2.2.2, 0, none⟩))]) (fun s_ w' => (w'.cell? ⟨gb114, 0, none⟩ = some (.int .i64 t103) ∧ w'.cell? ⟨gb114, 1, none⟩ = some (.int .i64 t104) ∧ w'.cell? ⟨gb114, 2, none⟩ = some (.int .i64 t105) ∧ w'.cell? ⟨gb114, 3, none⟩ = some (.int .i64 t106) ∧ w'.cell? ⟨gb114, 4, none⟩ = some (.int .i64 t107) ∧ w'.cell? ⟨gb114, 5, none⟩ = some (.int .i64 t108) ∧ w'.cell? ⟨gb114, 6, none⟩ = some (.slice Ao22 t109.length co22) ∧ w'.cell? ⟨gb101, 0, none⟩ = some (.int .i64 a1_0) ∧ w'.cell? ⟨gb101, 1, none⟩ = some (.int .i64 a1_1) ∧ w'.cell? ⟨gb101, 2, none⟩ = some (.int .i64 a1_2) ∧ w'.cell? ⟨gb101, 3, none⟩ = some (.int .i64 a1_3) ∧ w'.cell? ⟨gb101, 4, none⟩ = some (.string a1_4) ∧ w'.cell? ⟨gb101, 5, none⟩ = some (.int .i64 a1_5) ∧ w'.cell? ⟨gb101, 6, none⟩ = some (.int .i64 a1_6)) ∧ (Kd.R k29 29 w' w.heap.size (fun k_ => some k_ ≠ (.slice Ao30 t122.length co30 : Value).ownBlock ∧ some k_ ≠ (s_.2.1 : Value).ownBlock ∧ some k_ ≠ (s_.2.2.1 : Value).ownBlock ∧ k_ ≠ gb101) (.slice Ao22 t109.length co22) t109) ∧ (Kd.R k29 29 w' w.heap.size (fun k_ => some k_ ≠ (.slice Ao22 t109.length co22 : Value).ownBlock ∧ some k_ ≠ (s_.2.1 : Value).ownBlock ∧ some k_ ≠ (s_.2.2.1 : Value).ownBlock ∧ k_ ≠ gb101) (.slice Ao30 t122.length co30) t122) ∧ (Kd.R k29 29 w' w.heap.size (fun k_ => some k_ ≠ (.slice Ao22 t109.length co22 : Value).ownBlock ∧ some k_ ≠ (.slice Ao30 t122.length co30 : Value).ownBlock ∧ some k_ ≠ (s_.2.2.1 : Value).ownBlock ∧ k_ ≠ gb101) s_.2.1 y131) ∧ (Kd.R k29 29 w' w.heap.size (fun k_ => some k_ ≠ (.slice Ao22 t109.length co22 : Value).ownBlock ∧ some k_ ≠ (.slice Ao30 t122.length co30 : Value).ownBlock ∧ some k_ ≠ (s_.2.1 : Value).ownBlock ∧ k_ ≠ gb101) s_.2.2.1 y141) ∧ (w'.heap[gb101]? = some (.cells #[.int .i64 a1_0, .int .i64 a1_1, .int .i64 a1_2, .int .i64 a1_3, .string a1_4, .int .i64 a1_5, .int .i64 a1_6] 29 (0, 0))) ∧ (w'.heap[gb114]? = some (.cells #[.int .i64 t103, .int .i64 t104, .int .i64 t105, .int .i64 t106, .int .i64 t107, .int .i64 t108, .slice Ao22 t109.length co22] 26 (0, 0))) ∧ (w'.heap[gb127]? = some (.cells #[.int .i64 t103, .int .i64 t104, .int .i64 t105, .int .i64 t106, .int .i64 t107, .int .i64 t108, .slice Ao30 t122.length co30] 26 (0, 0))) ∧ (w'.heap[s_.2.2.2]? = some (.cells #[.int .i64 0, .int .i64 0, .int .i64 0, .int .i64 0, .int .i64 0, .int .i64 0, .slice none 0 0] 26 (0, 0))) ∧ (w.heap.size ≤ s_.2.2.2) ∧ (w.heap.size ≤ s_.2.2.2) ∧ (gb101 ≠ s_.2.2.2) ∧ (s_.2.2.2 ≠ gb101) ∧ (gb114 ≠ s_.2.2.2) ∧ (s_.2.2.2 ≠ gb114) ∧ (gb127 ≠ s_.2.2.2) ∧ (s_.2.2.2 ≠ gb127) ∧ (Below w.heap.size w w')) ?_ ?_
      rotate_left
      ·intro hJ2_5_7_8_11
       refine join_ (σ := Value × Value × Value) 4 #[true, true, true, true, true, true, true, true, true, false, false, false, false] (fun s_ => [(41, s_.1), (44, s_.2.1), (46, .agg #[.int .i64 t134, .int .i64 t135, .int .i64 t136, .int .i64 t137, .string t138, .int .i64 t139, .int .i64 t140]), (47, s_.2.2)]) (fun s_ w' => (w'.cell? ⟨gb114, 0, none⟩ = some (.int .i64 t103) ∧ w'.cell? ⟨gb114, 1, none⟩ = some (.int .i64 t104) ∧ w'.cell? ⟨gb114, 2, none⟩ = some (.int .i64 t105) ∧ w'.cell? ⟨gb114, 3, none⟩ = some (.int .i64 t106) ∧ w'.cell? ⟨gb114, 4, none⟩ = some (.int .i64 t107) ∧ w'.cell? ⟨gb114, 5, none⟩ = some (.int .i64 t108) ∧ w'.cell? ⟨gb114, 6, none⟩ = some (.slice Ao22 t109.length co22) ∧ w'.cell? ⟨gb101, 0, none⟩ = some (.int .i64 a1_0) ∧ w'.cell? ⟨gb101, 1, none⟩ = some (.int .i64 a1_1) ∧ w'.cell? ⟨gb101, 2, none⟩ = some (.int .i64 a1_2) ∧ w'.cell? ⟨gb101, 3, none⟩ = some (.int .i64 a1_3) ∧ w'.cell? ⟨gb101, 4, none⟩ = some (.string a1_4) ∧ w'.cell? ⟨gb101, 5, none⟩ = some (.int .i64 a1_5) ∧ w'.cell? ⟨gb101, 6, none⟩ = some (.int .i64 a1_6)) ∧ (Kd.R k29 29 w' w.heap.size (fun k_ => some k_ ≠ (.slice Ao30 t122.length co30 : Value).ownBlock ∧ some k_ ≠ (s_.2.1 : Value).ownBlock ∧ some k_ ≠ (s_.2.2 : Value).ownBlock ∧ k_ ≠ gb101) (.slice Ao22 t109.length co22) t109) ∧ (Kd.R k29 29 w' w.heap.size (fun k_ => some k_ ≠ (.slice Ao22 t109.length co22 : Value).ownBlock ∧ some k_ ≠ (s_.2.1 : Value).ownBlock ∧ some k_ ≠ (s_.2.2 : Value).ownBlock ∧ k_ ≠ gb101) (.slice Ao30 t122.length co30) t122) ∧ (Kd.R k29 29 w' w.heap.size (fun k_ => some k_ ≠ (.slice Ao22 t109.length co22 : Value).ownBlock ∧ some k_ ≠ (.slice Ao30 t122.length co30 : Value).ownBlock ∧ some k_ ≠ (s_.2.2 : Value).ownBlock ∧ k_ ≠ gb101) s_.2.1 y131) ∧ (Kd.R k29 29 w' w.heap.size (fun k_ => some k_ ≠ (.slice Ao22 t109.length co22 : Value).ownBlock ∧ some k_ ≠ (.slice Ao30 t122.length co30 : Value).ownBlock ∧ some k_ ≠ (s_.2.1 : Value).ownBlock ∧ k_ ≠ gb101) s_.2.2 y141) ∧ (w'.heap[gb101]? = some (.cells #[.int .i64 a1_0, .int .i64 a1_1, .int .i64 a1_2, .int .i64 a1_3, .string a1_4, .int .i64 a1_5, .int .i64 a1_6] 29 (0, 0))) ∧ (w'.heap[gb114]? = some (.cells #[.int .i64 t103, .int .i64 t104, .int .i64 t105, .int .i64 t106, .int .i64 t107, .int .i64 t108, .slice Ao22 t109.length co22] 26 (0, 0))) ∧ (w'.heap[gb127]? = some (.cells #[.int .i64 t103, .int .i64 t104, .int .i64 t105, .int .i64 t106, .int .i64 t107, .int .i64 t108, .slice Ao30 t122.length co30] 26 (0, 0))) ∧ (Below w.heap.size w w')) ?_ ?_
       rotate_left
       ·intro hJ2_5_7_8
        refine join_ (σ := Value × Value × Nat) 4 #[true, true, true, true, true, true, true, true, false, false, false, true, false] (fun s_ => [(41, s_.1), (44, s_.2.1), (46, .agg #[.int .i64 t134, .int .i64 t135, .int .i64 t136, .int .i64 t137, .string t138, .int .i64 t139, .int .i64 t140]), (12, .pointer (some ⟨s_.2.2, 0, none⟩))]) (fun s_ w' => (w'.cell? ⟨gb114, 0, none⟩ = some (.int .i64 t103) ∧ w'.cell? ⟨gb114, 1, none⟩ = some (.int .i64 t104) ∧ w'.cell? ⟨gb114, 2, none⟩ = some (.int .i64 t105) ∧ w'.cell? ⟨gb114, 3, none⟩ = some (.int .i64 t106) ∧ w'.cell? ⟨gb114, 4, none⟩ = some (.int .i64 t107) ∧ w'.cell? ⟨gb114, 5, none⟩ = some (.int .i64 t108) ∧ w'.cell? ⟨gb114, 6, none⟩ = some (.slice Ao22 t109.length co22) ∧ w'.cell? ⟨gb101, 0, none⟩ = some (.int .i64 a1_0) ∧ w'.cell? ⟨gb101, 1, none⟩ = some (.int .i64 a1_1) ∧ w'.cell? ⟨gb101, 2, none⟩ = some (.int .i64 a1_2) ∧ w'.cell? ⟨gb101, 3, none⟩ = some (.int .i64 a1_3) ∧ w'.cell? ⟨gb101, 4, none⟩ = some (.string a1_4) ∧ w'.cell? ⟨gb101, 5, none⟩ = some (.int .i64 a1_5) ∧ w'.cell? ⟨gb101, 6, none⟩ = some (.int .i64 a1_6)) ∧ (Kd.R k29 29 w' w.heap.size (fun k_ => some k_ ≠ (.slice Ao30 t122.length co30 : Value).ownBlock ∧ some k_ ≠ (s_.2.1 : Value).ownBlock ∧ k_ ≠ gb101) (.slice Ao22 t109.length co22) t109) ∧ (Kd.R k29 29 w' w.heap.size (fun k_ => some k_ ≠ (.slice Ao22 t109.length co22 : Value).ownBlock ∧ some k_ ≠ (s_.2.1 : Value).ownBlock ∧ k_ ≠ gb101) (.slice Ao30 t122.length co30) t122) ∧ (Kd.R k29 29 w' w.heap.size (fun k_ => some k_ ≠ (.slice Ao22 t109.length co22 : Value).ownBlock ∧ some k_ ≠ (.slice Ao30 t122.length co30 : Value).ownBlock ∧ k_ ≠ gb101) s_.2.1 y131) ∧ (w'.heap[gb101]? = some (.cells #[.int .i64 a1_0, .int .i64 a1_1, .int .i64 a1_2, .int .i64 a1_3, .string a1_4, .int .i64 a1_5, .int .i64 a1_6] 29 (0, 0))) ∧ (w'.heap[gb114]? = some (.cells #[.int .i64 t103, .int .i64 t104, .int .i64 t105, .int .i64 t106, .int .i64 t107, .int .i64 t108, .slice Ao22 t109.length co22] 26 (0, 0))) ∧ (w'.heap[gb127]? = some (.cells #[.int .i64 t103, .int .i64 t104, .int .i64 t105, .int .i64 t106, .int .i64 t107, .int .i64 t108, .slice Ao30 t122.length co30] 26 (0, 0))) ∧ (w'.heap[s_.2.2]? = some (.cells #[.int .i64 0, .int .i64 0, .int .i64 0, .int .i64 0, .int .i64 0, .int .i64 0, .slice none 0 0] 26 (0, 0))) ∧ (w.heap.size ≤ s_.2.2) ∧ (w.heap.size ≤ s_.2.2) ∧ (gb101 ≠ s_.2.2) ∧ (s_.2.2 ≠ gb101) ∧ (gb114 ≠ s_.2.2) ∧ (s_.2.2 ≠ gb114) ∧ (gb127 ≠ s_.2.2) ∧ (s_.2.2 ≠ gb127) ∧ (Below w.heap.size w w')) ?_ ?_
        rotate_left
        ·intro hJ2_5_7_11
         refine join_ (σ := Value × Value) 5 #[true, true, true, true, true, true, true, true, false, false, false, false, false] (fun s_ => [(41, s_.1), (44, s_.2), (46, .agg #[.int .i64 t134, .int .i64 t135, .int .i64 t136, .int .i64 t137, .string t138, .int .i64 t139, .int .i64 t140])]) (fun s_ w' => (w'.cell? ⟨gb114, 0, none⟩ = some (.int .i64 t103) ∧ w'.cell? ⟨gb114, 1, none⟩ = some (.int .i64 t104) ∧ w'.cell? ⟨gb114, 2, none⟩ = some (.int .i64 t105) ∧ w'.cell? ⟨gb114, 3, none⟩ = some (.int .i64 t106) ∧ w'.cell? ⟨gb114, 4, none⟩ = some (.int .i64 t107) ∧ w'.cell? ⟨gb114, 5, none⟩ = some (.int .i64 t108) ∧ w'.cell? ⟨gb114, 6, none⟩ = some (.slice Ao22 t109.length co22) ∧ w'.cell? ⟨gb101, 0, none⟩ = some (.int .i64 a1_0) ∧ w'.cell? ⟨gb101, 1, none⟩ = some (.int .i64 a1_1) ∧ w'.cell? ⟨gb101, 2, none⟩ = some (.int .i64 a1_2) ∧ w'.cell? ⟨gb101, 3, none⟩ = some (.int .i64 a1_3) ∧ w'.cell? ⟨gb101, 4, none⟩ = some (.string a1_4) ∧ w'.cell? ⟨gb101, 5, none⟩ = some (.int .i64 a1_5) ∧ w'.cell? ⟨gb101, 6, none⟩ = some (.int .i64 a1_6)) ∧ (Kd.R k29 29 w' w.heap.size (fun k_ => some k_ ≠ (.slice Ao30 t122.length co30 : Value).ownBlock ∧ some k_ ≠ (s_.2 : Value).ownBlock ∧ k_ ≠ gb101) (.slice Ao22 t109.length co22) t109) ∧ (Kd.R k29 29 w' w.heap.size (fun k_ => some k_ ≠ (.slice Ao22 t109.length co22 : Value).ownBlock ∧ some k_ ≠ (s_.2 : Value).ownBlock ∧ k_ ≠ gb101) (.slice Ao30 t122.length co30) t122) ∧ (Kd.R k29 29 w' w.heap.size (fun k_ => some k_ ≠ (.slice Ao22 t109.length co22 : Value).ownBlock ∧ some k_ ≠ (.slice Ao30 t122.length co30 : Value).ownBlock ∧ k_ ≠ gb101) s_.2 y131) ∧ (w'.heap[gb101]? = some (.cells #[.int .i64 a1_0, .int .i64 a1_1, .int .i64 a1_2, .int .i64 a1_3, .string a1_4, .int .i64 a1_5, .int .i64 a1_6] 29 (0, 0))) ∧ (w'.heap[gb114]? = some (.cells #[.int .i64 t103, .int .i64 t104, .int .i64 t105, .int .i64 t106, .int .i64 t107, .int .i64 t108, .slice Ao22 t109.length co22] 26 (0, 0))) ∧ (w'.heap[gb127]? = some (.cells #[.int .i64 t103, .int .i64 t104, .int .i64 t105, .int .i64 t106, .int .i64 t107, .int .i64 t108, .slice Ao30 t122.length co30] 26 (0, 0))) ∧ (Below w.heap.size w w')) ?_ ?_
         rotate_left
         ·intro hJ2_5_7
          refine join_ (σ := Value × Value × Nat) 5 #[true, true, true, true, true, true, true, false, false, false, false, true, false] (fun s_ => [(41, s_.1), (44, s_.2.1), (12, .pointer (some ⟨s_.2.2, 0, none⟩))]) (fun s_ w' => (w'.cell? ⟨gb114, 0, none⟩ = some (.int .i64 t103) ∧ w'.cell? ⟨gb114, 1, none⟩ = some (.int .i64 t104) ∧ w'.cell? ⟨gb114, 2, none⟩ = some (.int .i64 t105) ∧ w'.cell? ⟨gb114, 3, none⟩ = some (.int .i64 t106) ∧ w'.cell? ⟨gb114, 4, none⟩ = some (.int .i64 t107) ∧ w'.cell? ⟨gb114, 5, none⟩ = some (.int .i64 t108) ∧ w'.cell? ⟨gb114, 6, none⟩ = some (.slice Ao22 t109.length co22) ∧ w'.cell? ⟨gb101, 0, none⟩ = some (.int .i64 a1_0) ∧ w'.cell? ⟨gb101, 1, none⟩ = some (.int .i64 a1_1) ∧ w'.cell? ⟨gb101, 2, none⟩ = some (.int .i64 a1_2) ∧ w'.cell? ⟨gb101, 3, none⟩ = some (.int .i64 a1_3) ∧ w'.cell? ⟨gb101, 4, none⟩ = some (.string a1_4) ∧ w'.cell? ⟨gb101, 5, none⟩ = some (.int .i64 a1_5) ∧ w'.cell? ⟨gb101, 6, none⟩ = some (.int .i64 a1_6)) ∧ (Kd.R k29 29 w' w.heap.size (fun k_ => some k_ ≠ (.slice Ao30 t122.length co30 : Value).ownBlock ∧ some k_ ≠ (s_.2.1 : Value).ownBlock ∧ k_ ≠ gb101) (.slice Ao22 t109.length co22) t109) ∧ (Kd.R k29 29 w' w.heap.size (fun k_ => some k_ ≠ (.slice Ao22 t109.length co22 : Value).ownBlock ∧ some k_ ≠ (s_.2.1 : Value).ownBlock ∧ k_ ≠ gb101) (.slice Ao30 t122.length co30) t122) ∧ (Kd.R k29 29 w' w.heap.size (fun k_ => some k_ ≠ (.slice Ao22 t109.length co22 : Value).ownBlock ∧ some k_ ≠ (.slice Ao30 t122.length co30 : Value).ownBlock ∧ k_ ≠ gb101) s_.2.1 y131) ∧ (w'.heap[gb101]? = some (.cells #[.int .i64 a1_0, .int .i64 a1_1, .int .i64 a1_2, .int .i64 a1_3, .string a1_4, .int .i64 a1_5, .int .i64 a1_6] 29 (0, 0))) ∧ (w'.heap[gb114]? = some (.cells #[.int .i64 t103, .int .i64 t104, .int .i64 t105, .int .i64 t106, .int .i64 t107, .int .i64 t108, .slice Ao22 t109.length co22] 26 (0, 0))) ∧ (w'.heap[gb127]? = some (.cells #[.int .i64 t103, .int .i64 t104, .int .i64 t105, .int .i64 t106, .int .i64 t107, .int .i64 t108, .slice Ao30 t122.length co30] 26 (0, 0))) ∧ (w'.heap[s_.2.2]? = some (.cells #[.int .i64 0, .int .i64 0, .int .i64 0, .int .i64 0, .int .i64 0, .int .i64 0, .slice none 0 0] 26 (0, 0))) ∧ (w.heap.size ≤ s_.2.2) ∧ (w.heap.size ≤ s_.2.2) ∧ (gb101 ≠ s_.2.2) ∧ (s_.2.2 ≠ gb101) ∧ (gb114 ≠ s_.2.2) ∧ (s_.2.2 ≠ gb114) ∧ (gb127 ≠ s_.2.2) ∧ (s_.2.2 ≠ gb127) ∧ (Below w.heap.size w w')) ?_ ?_
          rotate_left
          ·intro hJ2_5_11
           refine join_ (σ := Value × Value) 6 #[true, true, true, true, true, true, true, false, false, false, false, false, false] (fun s_ => [(41, s_.1), (44, s_.2)]) (fun s_ w' => (w'.cell? ⟨gb114, 0, none⟩ = some (.int .i64 t103) ∧ w'.cell? ⟨gb114, 1, none⟩ = some (.int .i64 t104) ∧ w'.cell? ⟨gb114, 2, none⟩ = some (.int .i64 t105) ∧ w'.cell? ⟨gb114, 3, none⟩ = some (.int .i64 t106) ∧ w'.cell? ⟨gb114, 4, none⟩ = some (.int .i64 t107) ∧ w'.cell? ⟨gb114, 5, none⟩ = some (.int .i64 t108) ∧ w'.cell? ⟨gb114, 6, none⟩ = some (.slice Ao22 t109.length co22) ∧ w'.cell? ⟨gb101, 0, none⟩ = some (.int .i64 a1_0) ∧ w'.cell? ⟨gb101, 1, none⟩ = some (.int .i64 a1_1) ∧ w'.cell? ⟨gb101, 2, none⟩ = some (.int .i64 a1_2) ∧ w'.cell? ⟨gb101, 3, none⟩ = some (.int .i64 a1_3) ∧ w'.cell? ⟨gb101, 4, none⟩ = some (.string a1_4) ∧ w'.cell? ⟨gb101, 5, none⟩ = some (.int .i64 a1_5) ∧ w'.cell? ⟨gb101, 6, none⟩ = some (.int .i64 a1_6)) ∧ (Kd.R k29 29 w' w.heap.size (fun k_ => some k_ ≠ (.slice Ao30 t122.length co30 : Value).ownBlock ∧ some k_ ≠ (s_.2 : Value).ownBlock ∧ k_ ≠ gb101) (.slice Ao22 t109.length co22) t109) ∧ (Kd.R k29 29 w' w.heap.size (fun k_ => some k_ ≠ (.slice Ao22 t109.length co22 : Value).ownBlock ∧ some k_ ≠ (s_.2 : Value).ownBlock ∧ k_ ≠ gb101) (.slice Ao30 t122.length co30) t122) ∧ (Kd.R k29 29 w' w.heap.size (fun k_ => some k_ ≠ (.slice Ao22 t109.length co22 : Value).ownBlock ∧ some k_ ≠ (.slice Ao30 t122.length co30 : Value).ownBlock ∧ k_ ≠ gb101) s_.2 y131) ∧ (w'.heap[gb101]? = some (.cells #[.int .i64 a1_0, .int .i64 a1_1, .int .i64 a1_2, .int .i64 a1_3, .string a1_4, .int .i64 a1_5, .int .i64 a1_6] 29 (0, 0))) ∧ (w'.heap[gb114]? = some (.cells #[.int .i64 t103, .int .i64 t104, .int .i64 t105, .int .i64 t106, .int .i64 t107, .int .i64 t108, .slice Ao22 t109.length co22] 26 (0, 0))) ∧ (w'.heap[gb127]? = some (.cells #[.int .i64 t103, .int .i64 t104, .int .i64 t105, .int .i64 t106, .int .i64 t107, .int .i64 t108, .slice Ao30 t122.length co30] 26 (0, 0))) ∧ (Below w.heap.size w w')) ?_ ?_
           rotate_left
           ·intro hJ2_5
            refine join_ (σ := Value × Nat) 6 #[true, true, true, true, true, false, true, false, false, false, false, true, false] (fun s_ => [(41, s_.1), (12, .pointer (some ⟨s_.2, 0, none⟩))]) (fun s_ w' => (w'.cell? ⟨gb114, 0, none⟩ = some (.int .i64 t103) ∧ w'.cell? ⟨gb114, 1, none⟩ = some (.int .i64 t104) ∧ w'.cell? ⟨gb114, 2, none⟩ = some (.int .i64 t105) ∧ w'.cell? ⟨gb114, 3, none⟩ = some (.int .i64 t106) ∧ w'.cell? ⟨gb114, 4, none⟩ = some (.int .i64 t107) ∧ w'.cell? ⟨gb114, 5, none⟩ = some (.int .i64 t108) ∧ w'.cell? ⟨gb114, 6, none⟩ = some (.slice Ao22 t109.length co22) ∧ w'.cell? ⟨gb101, 0, none⟩ = some (.int .i64 a1_0) ∧ w'.cell? ⟨gb101, 1, none⟩ = some (.int .i64 a1_1) ∧ w'.cell? ⟨gb101, 2, none⟩ = some (.int .i64 a1_2) ∧ w'.cell? ⟨gb101, 3, none⟩ = some (.int .i64 a1_3) ∧ w'.cell? ⟨gb101, 4, none⟩ = some (.string a1_4) ∧ w'.cell? ⟨gb101, 5, none⟩ = some (.int .i64 a1_5) ∧ w'.cell? ⟨gb101, 6, none⟩ = some (.int .i64 a1_6)) ∧ (Kd.R k29 29 w' w.heap.size (fun k_ => some k_ ≠ (.slice Ao30 t122.length co30 : Value).ownBlock ∧ some k_ ≠ (s_.1 : Value).ownBlock ∧ k_ ≠ gb101) (.slice Ao22 t109.length co22) t109) ∧ (Kd.R k29 29 w' w.heap.size (fun k_ => some k_ ≠ (.slice Ao22 t109.length co22 : Value).ownBlock ∧ some k_ ≠ (s_.1 : Value).ownBlock ∧ k_ ≠ gb101) (.slice Ao30 t122.length co30) t122) ∧ (Kd.R k29 29 w' w.heap.size (fun k_ => some k_ ≠ (.slice Ao22 t109.length co22 : Value).ownBlock ∧ some k_ ≠ (.slice Ao30 t122.length co30 : Value).ownBlock ∧ k_ ≠ gb101) s_.1 y128) ∧ (w'.heap[gb101]? = some (.cells #[.int .i64 a1_0, .int .i64 a1_1, .int .i64 a1_2, .int .i64 a1_3, .string a1_4, .int .i64 a1_5, .int .i64 a1_6] 29 (0, 0))) ∧ (w'.heap[gb114]? = some (.cells #[.int .i64 t103, .int .i64 t104, .int .i64 t105, .int .i64 t106, .int .i64 t107, .int .i64 t108, .slice Ao22 t109.length co22] 26 (0, 0))) ∧ (w'.heap[gb127]? = some (.cells #[.int .i64 t103, .int .i64 t104, .int .i64 t105, .int .i64 t106, .int .i64 t107, .int .i64 t108, .slice Ao30 t122.length co30] 26 (0, 0))) ∧ (w'.heap[s_.2]? = some (.cells #[.int .i64 0, .int .i64 0, .int .i64 0, .int .i64 0, .int .i64 0, .int .i64 0, .slice none 0 0] 26 (0, 0))) ∧ (w.heap.size ≤ s_.2) ∧ (w.heap.size ≤ s_.2) ∧ (gb101 ≠ s_.2) ∧ (s_.2 ≠ gb101) ∧ (gb114 ≠ s_.2) ∧ (s_.2 ≠ gb114) ∧ (gb127 ≠ s_.2) ∧ (s_.2 ≠ gb127) ∧ (Below w.heap.size w w')) ?_ ?_
            rotate_left
            ·intro hJ2_11
             refine join_ (σ := Value) 7 #[true, true, true, true, true, false, true, false, false, false, false, false, false] (fun s_ => [(41, s_)]) (fun s_ w' => (w'.cell? ⟨gb114, 0, none⟩ = some (.int .i64 t103) ∧ w'.cell? ⟨gb114, 1, none⟩ = some (.int .i64 t104) ∧ w'.cell? ⟨gb114, 2, none⟩ = some (.int .i64 t105) ∧ w'.cell? ⟨gb114, 3, none⟩ = some (.int .i64 t106) ∧ w'.cell? ⟨gb114, 4, none⟩ = some (.int .i64 t107) ∧ w'.cell? ⟨gb114, 5, none⟩ = some (.int .i64 t108) ∧ w'.cell? ⟨gb114, 6, none⟩ = some (.slice Ao22 t109.length co22) ∧ w'.cell? ⟨gb101, 0, none⟩ = some (.int .i64 a1_0) ∧ w'.cell? ⟨gb101, 1, none⟩ = some (.int .i64 a1_1) ∧ w'.cell? ⟨gb101, 2, none⟩ = some (.int .i64 a1_2) ∧ w'.cell? ⟨gb101, 3, none⟩ = some (.int .i64 a1_3) ∧ w'.cell? ⟨gb101, 4, none⟩ = some (.string a1_4) ∧ w'.cell? ⟨gb101, 5, none⟩ = some (.int .i64 a1_5) ∧ w'.cell? ⟨gb101, 6, none⟩ = some (.int .i64 a1_6)) ∧ (Kd.R k29 29 w' w.heap.size (fun k_ => some k_ ≠ (.slice Ao30 t122.length co30 : Value).ownBlock ∧ some k_ ≠ (s_ : Value).ownBlock ∧ k_ ≠ gb101) (.slice Ao22 t109.length co22) t109) ∧ (Kd.R k29 29 w' w.heap.size (fun k_ => some k_ ≠ (.slice Ao22 t109.length co22 : Value).ownBlock ∧ some k_ ≠ (s_ : Value).ownBlock ∧ k_ ≠ gb101) (.slice Ao30 t122.length co30) t122) ∧ (Kd.R k29 29 w' w.heap.size (fun k_ => some k_ ≠ (.slice Ao22 t109.length co22 : Value).ownBlock ∧ some k_ ≠ (.slice Ao30 t122.length co30 : Value).ownBlock ∧ k_ ≠ gb101) s_ y128) ∧ (w'.heap[gb101]? = some (.cells #[.int .i64 a1_0, .int .i64 a1_1, .int .i64 a1_2, .int .i64 a1_3, .string a1_4, .int .i64 a1_5, .int .i64 a1_6] 29 (0, 0))) ∧ (w'.heap[gb114]? = some (.cells #[.int .i64 t103, .int .i64 t104, .int .i64 t105, .int .i64 t106, .int .i64 t107, .int .i64 t108, .slice Ao22 t109.length co22] 26 (0, 0))) ∧ (w'.heap[gb127]? = some (.cells #[.int .i64 t103, .int .i64 t104, .int .i64 t105, .int .i64 t106, .int .i64 t107, .int .i64 t108, .slice Ao30 t122.length co30] 26 (0, 0))) ∧ (Below w.heap.size w w')) ?_ ?_
             rotate_left
             ·intro hJ2
              refine join_ (σ := Nat) 7 #[true, true, false, true, true, false, true, false, false, false, false, true, false] (fun s_ => [(12, .pointer (some ⟨s_, 0, none⟩))]) (fun s_ w' => (w'.cell? ⟨gb114, 0, none⟩ = some (.int .i64 t103) ∧ w'.cell? ⟨gb114, 1, none⟩ = some (.int .i64 t104) ∧ w'.cell? ⟨gb114, 2, none⟩ = some (.int .i64 t105) ∧ w'.cell? ⟨gb114, 3, none⟩ = some (.int .i64 t106) ∧ w'.cell? ⟨gb114, 4, none⟩ = some (.int .i64 t107) ∧ w'.cell? ⟨gb114, 5, none⟩ = some (.int .i64 t108) ∧ w'.cell? ⟨gb114, 6, none⟩ = some (.slice Ao22 t109.length co22) ∧ w'.cell? ⟨gb101, 0, none⟩ = some (.int .i64 a1_0) ∧ w'.cell? ⟨gb101, 1, none⟩ = some (.int .i64 a1_1) ∧ w'.cell? ⟨gb101, 2, none⟩ = some (.int .i64 a1_2) ∧ w'.cell? ⟨gb101, 3, none⟩ = some (.int .i64 a1_3) ∧ w'.cell? ⟨gb101, 4, none⟩ = some (.string a1_4) ∧ w'.cell? ⟨gb101, 5, none⟩ = some (.int .i64 a1_5) ∧ w'.cell? ⟨gb101, 6, none⟩ = some (.int .i64 a1_6)) ∧ (Kd.R k29 29 w' w.heap.size (fun k_ => some k_ ≠ (.slice Ao30 t122.length co30 : Value).ownBlock ∧ k_ ≠ gb101) (.slice Ao22 t109.length co22) t109) ∧ (Kd.R k29 29 w' w.heap.size (fun k_ => some k_ ≠ (.slice Ao22 t109.length co22 : Value).ownBlock ∧ k_ ≠ gb101) (.slice Ao30 t122.length co30) t122) ∧ (w'.heap[gb101]? = some (.cells #[.int .i64 a1_0, .int .i64 a1_1, .int .i64 a1_2, .int .i64 a1_3, .string a1_4, .int .i64 a1_5, .int .i64 a1_6] 29 (0, 0))) ∧ (w'.heap[gb114]? = some (.cells #[.int .i64 t103, .int .i64 t104, .int .i64 t105, .int .i64 t106, .int .i64 t107, .int .i64 t108, .slice Ao22 t109.length co22] 26 (0, 0))) ∧ (w'.heap[gb127]? = some (.cells #[.int .i64 t103, .int .i64 t104, .int .i64 t105, .int .i64 t106, .int .i64 t107, .int .i64 t108, .slice Ao30 t122.length co30] 26 (0, 0))) ∧ (w'.heap[s_]? = some (.cells #[.int .i64 0, .int .i64 0, .int .i64 0, .int .i64 0, .int .i64 0, .int .i64 0, .slice none 0 0] 26 (0, 0))) ∧ (w.heap.size ≤ s_) ∧ (w.heap.size ≤ s_) ∧ (gb101 ≠ s_) ∧ (s_ ≠ gb101) ∧ (gb114 ≠ s_) ∧ (s_ ≠ gb114) ∧ (gb127 ≠ s_) ∧ (s_ ≠ gb127) ∧ (Below w.heap.size w w')) ?_ ?_
              rotate_left
              ·intro hJ11
               refine two_ (i := 2) (j := 11) (Ni := some 41) (Nj := some 12) #[true, true, true, true, true, false, true, false, false, false, false, false, false] #[true, true, false, true, true, false, true, false, false, false, false, true, false] rfl rfl rfl rfl (two_of HT_.out (by kernel_rfl)) (by decide) (by decide) (fun K hK => ?_) (fun K hK => ?_)
               ·skip
                refine Kd.R_lit_step k29 _ 29 ?hg (N := 41) ?hd (xs := ([] : List (S29))) (inner := []) (ok := fun _ => True) (okp := fun _ => True) ?hr ?hp (fun _ hk => hk) trivial (Below.refl _ _) (Nat.le_refl _) (by simp) ?_; (case hd => rfl); (case hg => rfl); (case hr => first | (go_simp; done) | (go_simp; rfl)); (case hp => exact (Reps.none _ _))
                intro v129 w33 ho34 hb hg_ hnew_
                clear hg_ hnew_
                (first | rw [← Ny128.out] at ho34 | (simp only [Int.reduceToNat] at ho34; rw [← Ny128.out] at ho34))
                have n0_ := Aside0.mk (Kd.R_elder' (by (with_reducible repeat (first | apply Kd.R_alloc | apply Kd.R_drewN | apply Kd.R_drew)); exact HO111.out) (Kd.R_base ho34) hb)
                have n1_ := Aside0.mk (Kd.R_elder' (by (with_reducible repeat (first | apply Kd.R_alloc | apply Kd.R_drewN | apply Kd.R_drew)); exact HO124.out) (Kd.R_base ho34) hb)
                have n2_ := Aside0.mk (Kd.R_lower (Kd.R_newB (Kd.R_new' (Kd.R_new' ho34 (Kd.R_lt (by (with_reducible repeat (first | apply Kd.R_alloc | apply Kd.R_drewN | apply Kd.R_drew)); exact HO111.out))) (Kd.R_lt (by (with_reducible repeat (first | apply Kd.R_alloc | apply Kd.R_drewN | apply Kd.R_drew)); exact HO124.out))) (g := gb101) (o := .cells #[.int .i64 a1_0, .int .i64 a1_1, .int .i64 a1_2, .int .i64 a1_3, .string a1_4, .int .i64 a1_5, .int .i64 a1_6] 29 (0, 0)) (by (with_reducible repeat (first | refine blk_drewN ?_ _ | refine blk_drew ?_ | refine blk_alloc ?_ _)); exact BK101.out)) (below_size (by repeat (first | (with_reducible first | exact HB.out | apply below_alloc | apply pw_below_drewN | apply below_drew1 | refine below_set ?_ GE101.out | refine below_set ?_ GE114.out | refine below_set ?_ GE127.out) | exact HB.out))))
                have n3_ := Aside0.mk (blk_below (g := gb101) (o := .cells #[.int .i64 a1_0, .int .i64 a1_1, .int .i64 a1_2, .int .i64 a1_3, .string a1_4, .int .i64 a1_5, .int .i64 a1_6] 29 (0, 0)) (by (with_reducible repeat (first | refine blk_drewN ?_ _ | refine blk_drew ?_ | refine blk_alloc ?_ _)); exact BK101.out) hb)
                have n4_ := Aside0.mk (blk_below (g := gb114) (o := .cells #[.int .i64 t103, .int .i64 t104, .int .i64 t105, .int .i64 t106, .int .i64 t107, .int .i64 t108, .slice Ao22 t109.length co22] 26 (0, 0)) (by (with_reducible repeat (first | refine blk_drewN ?_ _ | refine blk_drew ?_ | refine blk_alloc ?_ _)); exact BK114.out) hb)
                have n5_ := Aside0.mk (blk_below (g := gb127) (o := .cells #[.int .i64 t103, .int .i64 t104, .int .i64 t105, .int .i64 t106, .int .i64 t107, .int .i64 t108, .slice Ao30 t122.length co30] 26 (0, 0)) (by (with_reducible repeat (first | refine blk_drewN ?_ _ | refine blk_drew ?_ | refine blk_alloc ?_ _)); exact BK127.out) hb)
                have n6_ := Aside0.mk (below_step (by repeat (first | (with_reducible first | exact HB.out | apply below_alloc | apply pw_below_drewN | apply below_drew1 | refine below_set ?_ GE101.out | refine below_set ?_ GE114.out | refine below_set ?_ GE127.out) | exact HB.out)) hb)
                clear HO111
                clear HO124
                clear BK101
                clear BK114
                clear BK127
                clear HB
                have HO111 := n0_
                have HO124 := n1_
                have HO130 := n2_
                have BK101 := n3_
                have BK114 := n4_
                have BK127 := n5_
                have HB := n6_
                clear n0_ n1_ n2_ n3_ n4_ n5_ n6_
                clear hb ho34
                refine hK.out _ _ ⟨(blk_cell BK114.out 0).trans rfl, (blk_cell BK114.out 1).trans rfl, (blk_cell BK114.out 2).trans rfl, (blk_cell BK114.out 3).trans rfl, (blk_cell BK114.out 4).trans rfl, (blk_cell BK114.out 5).trans rfl, (blk_cell BK114.out 6).trans rfl, (blk_cell BK101.out 0).trans rfl, (blk_cell BK101.out 1).trans rfl, (blk_cell BK101.out 2).trans rfl, (blk_cell BK101.out 3).trans rfl, (blk_cell BK101.out 4).trans rfl, (blk_cell BK101.out 5).trans rfl, (blk_cell BK101.out 6).trans rfl⟩ (fun hHeld => ?_)
                clear hK K
                refine norm_ (a' := ?_) ?_ ?_
                rotate_left
                ·show Act.put _ (some 41) _ = _
                 simp only [Act.put, List.setIfInBounds_toArray, List.set_cons_zero, List.set_cons_succ, i64_w, i32_w]
                 rfl
                exact norm_ (by first | (simp only [putAll, Act.put, List.setIfInBounds_toArray, List.set_cons_zero, List.set_cons_succ]; done) | (simp only [putAll, Act.put, List.setIfInBounds_toArray, List.set_cons_zero, List.set_cons_succ]; rfl)) (hJ2 (v129) _ ⟨hHeld, (by (with_reducible repeat (first | apply Kd.R_alloc | apply Kd.R_drewN | apply Kd.R_drew)); exact Kd.R_mono HO111.out (fun _ hk => ⟨hk.1.1, ⟨hk.2, hk.1.2⟩⟩)), (by (with_reducible repeat (first | apply Kd.R_alloc | apply Kd.R_drewN | apply Kd.R_drew)); exact Kd.R_mono HO124.out (fun _ hk => ⟨hk.1.1, ⟨hk.2, hk.1.2⟩⟩)), (by (with_reducible repeat (first | apply Kd.R_alloc | apply Kd.R_drewN | apply Kd.R_drew)); exact Kd.R_mono HO130.out (fun _ hk => ⟨hk.1.1.2, ⟨hk.1.2, hk.2⟩⟩)), (by (with_reducible repeat (first | refine blk_drewN ?_ _ | refine blk_drew ?_ | refine blk_alloc ?_ _)); exact BK101.out), (by (with_reducible repeat (first | refine blk_drewN ?_ _ | refine blk_drew ?_ | refine blk_alloc ?_ _)); exact BK114.out), (by (with_reducible repeat (first | refine blk_drewN ?_ _ | refine blk_drew ?_ | refine blk_alloc ?_ _)); exact BK127.out), (by repeat (first | (with_reducible first | exact HB.out | apply below_alloc | apply pw_below_drewN | apply below_drew1 | refine below_set ?_ GE101.out | refine below_set ?_ GE114.out | refine below_set ?_ GE127.out) | exact HB.out))⟩)
               ·skip
                refine box_step ?hg (N := 12) ?hd (cs := #[.int .i64 0, .int .i64 0, .int .i64 0, .int .i64 0, .int .i64 0, .int .i64 0, .slice none 0 0]) (t := 26) ?hr ?_; (case hd => rfl); (case hg => rfl); (case hr => first | (go_simp; done) | (go_simp; rfl))
                intro gb147 hg w33 hbox hb
                have n0_ := Aside0.mk (Kd.R_below (by (with_reducible repeat (first | apply Kd.R_alloc | apply Kd.R_drewN | apply Kd.R_drew)); exact HO111.out) hb)
                have n1_ := Aside0.mk (Kd.R_below (by (with_reducible repeat (first | apply Kd.R_alloc | apply Kd.R_drewN | apply Kd.R_drew)); exact HO124.out) hb)
                have n2_ := Aside0.mk (blk_below (g := gb101) (o := .cells #[.int .i64 a1_0, .int .i64 a1_1, .int .i64 a1_2, .int .i64 a1_3, .string a1_4, .int .i64 a1_5, .int .i64 a1_6] 29 (0, 0)) (by (with_reducible repeat (first | refine blk_drewN ?_ _ | refine blk_drew ?_ | refine blk_alloc ?_ _)); exact BK101.out) hb)
                have n3_ := Aside0.mk (blk_below (g := gb114) (o := .cells #[.int .i64 t103, .int .i64 t104, .int .i64 t105, .int .i64 t106, .int .i64 t107, .int .i64 t108, .slice Ao22 t109.length co22] 26 (0, 0)) (by (with_reducible repeat (first | refine blk_drewN ?_ _ | refine blk_drew ?_ | refine blk_alloc ?_ _)); exact BK114.out) hb)
                have n4_ := Aside0.mk (blk_below (g := gb127) (o := .cells #[.int .i64 t103, .int .i64 t104, .int .i64 t105, .int .i64 t106, .int .i64 t107, .int .i64 t108, .slice Ao30 t122.length co30] 26 (0, 0)) (by (with_reducible repeat (first | refine blk_drewN ?_ _ | refine blk_drew ?_ | refine blk_alloc ?_ _)); exact BK127.out) hb)
                have n5_ := Aside0.mk (below_step (by repeat (first | (with_reducible first | exact HB.out | apply below_alloc | apply pw_below_drewN | apply below_drew1 | refine below_set ?_ GE101.out | refine below_set ?_ GE114.out | refine below_set ?_ GE127.out) | exact HB.out)) hb)
                have n6_ := Aside0.mk (hbox)
                have n7_ := Aside0.mk ((by rw [hg]; exact (below_size (by repeat (first | (with_reducible first | exact HB.out | apply below_alloc | apply pw_below_drewN | apply below_drew1 | refine below_set ?_ GE101.out | refine below_set ?_ GE114.out | refine below_set ?_ GE127.out) | exact HB.out))) : w.heap.size ≤ gb147))
                have n8_ := Aside0.mk ((by rw [hg]; exact (below_size (by repeat (first | (with_reducible first | exact HB.out | apply below_alloc | apply pw_below_drewN | apply below_drew1 | refine below_set ?_ GE101.out | refine below_set ?_ GE114.out | refine below_set ?_ GE127.out) | exact HB.out))) : w.heap.size ≤ gb147))
                have n9_ := Aside0.mk ((by rw [hg]; exact Nat.ne_of_lt (blk_lt (g := gb101) (o := .cells #[.int .i64 a1_0, .int .i64 a1_1, .int .i64 a1_2, .int .i64 a1_3, .string a1_4, .int .i64 a1_5, .int .i64 a1_6] 29 (0, 0)) (by (with_reducible repeat (first | refine blk_drewN ?_ _ | refine blk_drew ?_ | refine blk_alloc ?_ _)); exact BK101.out)) : gb101 ≠ gb147))
                have n10_ := Aside0.mk ((by rw [hg]; exact Nat.ne_of_gt (blk_lt (g := gb101) (o := .cells #[.int .i64 a1_0, .int .i64 a1_1, .int .i64 a1_2, .int .i64 a1_3, .string a1_4, .int .i64 a1_5, .int .i64 a1_6] 29 (0, 0)) (by (with_reducible repeat (first | refine blk_drewN ?_ _ | refine blk_drew ?_ | refine blk_alloc ?_ _)); exact BK101.out)) : gb147 ≠ gb101))
                have n11_ := Aside0.mk ((by rw [hg]; exact Nat.ne_of_lt (blk_lt (g := gb114) (o := .cells #[.int .i64 t103, .int .i64 t104, .int .i64 t105, .int .i64 t106, .int .i64 t107, .int .i64 t108, .slice Ao22 t109.length co22] 26 (0, 0)) (by (with_reducible repeat (first | refine blk_drewN ?_ _ | refine blk_drew ?_ | refine blk_alloc ?_ _)); exact BK114.out)) : gb114 ≠ gb147))
                have n12_ := Aside0.mk ((by rw [hg]; exact Nat.ne_of_gt (blk_lt (g := gb114) (o := .cells #[.int .i64 t103, .int .i64 t104, .int .i64 t105, .int .i64 t106, .int .i64 t107, .int .i64 t108, .slice Ao22 t109.length co22] 26 (0, 0)) (by (with_reducible repeat (first | refine blk_drewN ?_ _ | refine blk_drew ?_ | refine blk_alloc ?_ _)); exact BK114.out)) : gb147 ≠ gb114))
                have n13_ := Aside0.mk ((by rw [hg]; exact Nat.ne_of_lt (blk_lt (g := gb127) (o := .cells #[.int .i64 t103, .int .i64 t104, .int .i64 t105, .int .i64 t106, .int .i64 t107, .int .i64 t108, .slice Ao30 t122.length co30] 26 (0, 0)) (by (with_reducible repeat (first | refine blk_drewN ?_ _ | refine blk_drew ?_ | refine blk_alloc ?_ _)); exact BK127.out)) : gb127 ≠ gb147))
                have n14_ := Aside0.mk ((by rw [hg]; exact Nat.ne_of_gt (blk_lt (g := gb127) (o := .cells #[.int .i64 t103, .int .i64 t104, .int .i64 t105, .int .i64 t106, .int .i64 t107, .int .i64 t108, .slice Ao30 t122.length co30] 26 (0, 0)) (by (with_reducible repeat (first | refine blk_drewN ?_ _ | refine blk_drew ?_ | refine blk_alloc ?_ _)); exact BK127.out)) : gb147 ≠ gb127))
                clear HO111
                clear HO124
                clear BK101
                clear BK114
                clear BK127
                clear HB
                have HO111 := n0_
                have HO124 := n1_
                have BK101 := n2_
                have BK114 := n3_
                have BK127 := n4_
                have HB := n5_
                have BK147 := n6_
                have GW147 := n7_
                have GE147 := n8_
                have NB101_147 := n9_
                have NB147_101 := n10_
                have NB114_147 := n11_
                have NB147_114 := n12_
                have NB127_147 := n13_
                have NB147_127 := n14_
                clear n0_ n1_ n2_ n3_ n4_ n5_ n6_ n7_ n8_ n9_ n10_ n11_ n12_ n13_ n14_
                clear hb hbox hg
                refine hK.out _ _ ⟨(blk_cell BK114.out 0).trans rfl, (blk_cell BK114.out 1).trans rfl, (blk_cell BK114.out 2).trans rfl, (blk_cell BK114.out 3).trans rfl, (blk_cell BK114.out 4).trans rfl, (blk_cell BK114.out 5).trans rfl, (blk_cell BK114.out 6).trans rfl, (blk_cell BK101.out 0).trans rfl, (blk_cell BK101.out 1).trans rfl, (blk_cell BK101.out 2).trans rfl, (blk_cell BK101.out 3).trans rfl, (blk_cell BK101.out 4).trans rfl, (blk_cell BK101.out 5).trans rfl, (blk_cell BK101.out 6).trans rfl⟩ (fun hHeld => ?_)
                clear hK K
                refine norm_ (a' := ?_) ?_ ?_
                rotate_left
                ·show Act.put _ (some 12) _ = _
                 simp only [Act.put, List.setIfInBounds_toArray, List.set_cons_zero, List.set_cons_succ, i64_w, i32_w]
                 rfl
                exact norm_ (by first | (simp only [putAll, Act.put, List.setIfInBounds_toArray, List.set_cons_zero, List.set_cons_succ]; done) | (simp only [putAll, Act.put, List.setIfInBounds_toArray, List.set_cons_zero, List.set_cons_succ]; rfl)) (hJ11 (gb147) _ ⟨hHeld, (by (with_reducible repeat (first | apply Kd.R_alloc | apply Kd.R_drewN | apply Kd.R_drew)); exact HO111.out), (by (with_reducible repeat (first | apply Kd.R_alloc | apply Kd.R_drewN | apply Kd.R_drew)); exact HO124.out), (by (with_reducible repeat (first | refine blk_drewN ?_ _ | refine blk_drew ?_ | refine blk_alloc ?_ _)); exact BK101.out), (by (with_reducible repeat (first | refine blk_drewN ?_ _ | refine blk_drew ?_ | refine blk_alloc ?_ _)); exact BK114.out), (by (with_reducible repeat (first | refine blk_drewN ?_ _ | refine blk_drew ?_ | refine blk_alloc ?_ _)); exact BK127.out), (by (with_reducible repeat (first | refine blk_drewN ?_ _ | refine blk_drew ?_ | refine blk_alloc ?_ _)); exact BK147.out), GW147.out, GE147.out, NB101_147.out, NB147_101.out, NB114_147.out, NB147_114.out, NB127_147.out, NB147_127.out, (by repeat (first | (with_reducible first | exact HB.out | apply below_alloc | apply pw_below_drewN | apply below_drew1 | refine below_set ?_ GE101.out | refine below_set ?_ GE114.out | refine below_set ?_ GE127.out | refine below_set ?_ GE147.out) | exact HB.out))⟩)
              ·skip
               rintro gb147 w34 ⟨hS_, h0_, h1_, h2_, h3_, h4_, h5_, h6_, h7_, h8_, h9_, h10_, h11_, h12_, h13_, h14_⟩
               have n0_ : Aside0 (Kd.R k29 29 w34 w.heap.size (fun k_ => some k_ ≠ (.slice Ao30 t122.length co30 : Value).ownBlock ∧ k_ ≠ gb101) (.slice Ao22 t109.length co22) t109) := ⟨h0_⟩
               have n1_ : Aside0 (Kd.R k29 29 w34 w.heap.size (fun k_ => some k_ ≠ (.slice Ao22 t109.length co22 : Value).ownBlock ∧ k_ ≠ gb101) (.slice Ao30 t122.length co30) t122) := ⟨h1_⟩
               have n2_ : Aside0 (w34.heap[gb101]? = some (.cells #[.int .i64 a1_0, .int .i64 a1_1, .int .i64 a1_2, .int .i64 a1_3, .string a1_4, .int .i64 a1_5, .int .i64 a1_6] 29 (0, 0))) := ⟨h2_⟩
               have n3_ : Aside0 (w34.heap[gb114]? = some (.cells #[.int .i64 t103, .int .i64 t104, .int .i64 t105, .int .i64 t106, .int .i64 t107, .int .i64 t108, .slice Ao22 t109.length co22] 26 (0, 0))) := ⟨h3_⟩
               have n4_ : Aside0 (w34.heap[gb127]? = some (.cells #[.int .i64 t103, .int .i64 t104, .int .i64 t105, .int .i64 t106, .int .i64 t107, .int .i64 t108, .slice Ao30 t122.length co30] 26 (0, 0))) := ⟨h4_⟩
               have n5_ : Aside0 (w34.heap[gb147]? = some (.cells #[.int .i64 0, .int .i64 0, .int .i64 0, .int .i64 0, .int .i64 0, .int .i64 0, .slice none 0 0] 26 (0, 0))) := ⟨h5_⟩
               have n6_ : Aside0 (w.heap.size ≤ gb147) := ⟨h6_⟩
               have n7_ : Aside0 (w.heap.size ≤ gb147) := ⟨h7_⟩
               have n8_ : Aside0 (gb101 ≠ gb147) := ⟨h8_⟩
               have n9_ : Aside0 (gb147 ≠ gb101) := ⟨h9_⟩
               have n10_ : Aside0 (gb114 ≠ gb147) := ⟨h10_⟩
               have n11_ : Aside0 (gb147 ≠ gb114) := ⟨h11_⟩
               have n12_ : Aside0 (gb127 ≠ gb147) := ⟨h12_⟩
               have n13_ : Aside0 (gb147 ≠ gb127) := ⟨h13_⟩
               have n14_ : Aside0 (Below w.heap.size w w34) := ⟨h14_⟩
               clear HO111
               clear HO124
               clear BK101
               clear BK114
               clear BK127
               clear HB
               clear h0_ h1_ h2_ h3_ h4_ h5_ h6_ h7_ h8_ h9_ h10_ h11_ h12_ h13_ h14_
               have HO111 := n0_
               have HO124 := n1_
               have BK101 := n2_
               have BK114 := n3_
               have BK127 := n4_
               have BK147 := n5_
               have GW147 := n6_
               have GE147 := n7_
               have NB101_147 := n8_
               have NB147_101 := n9_
               have NB114_147 := n10_
               have NB147_114 := n11_
               have NB127_147 := n12_
               have NB147_127 := n13_
               have HB := n14_
               clear n0_ n1_ n2_ n3_ n4_ n5_ n6_ n7_ n8_ n9_ n10_ n11_ n12_ n13_ n14_
               have hHeld : w34.cell? ⟨gb114, 0, none⟩ = some (.int .i64 t103) ∧ w34.cell? ⟨gb114, 1, none⟩ = some (.int .i64 t104) ∧ w34.cell? ⟨gb114, 2, none⟩ = some (.int .i64 t105) ∧ w34.cell? ⟨gb114, 3, none⟩ = some (.int .i64 t106) ∧ w34.cell? ⟨gb114, 4, none⟩ = some (.int .i64 t107) ∧ w34.cell? ⟨gb114, 5, none⟩ = some (.int .i64 t108) ∧ w34.cell? ⟨gb114, 6, none⟩ = some (.slice Ao22 t109.length co22) ∧ w34.cell? ⟨gb101, 0, none⟩ = some (.int .i64 a1_0) ∧ w34.cell? ⟨gb101, 1, none⟩ = some (.int .i64 a1_1) ∧ w34.cell? ⟨gb101, 2, none⟩ = some (.int .i64 a1_2) ∧ w34.cell? ⟨gb101, 3, none⟩ = some (.int .i64 a1_3) ∧ w34.cell? ⟨gb101, 4, none⟩ = some (.string a1_4) ∧ w34.cell? ⟨gb101, 5, none⟩ = some (.int .i64 a1_5) ∧ w34.cell? ⟨gb101, 6, none⟩ = some (.int .i64 a1_6) := hS_
               refine norm_ (a' := ?_) ?_ ?_
               rotate_left
               ·simp only [putAll, Act.put, List.setIfInBounds_toArray, List.set_cons_zero, List.set_cons_succ]
                rfl
               refine one_ (i := 2) (N := some 41) #[true, true, true, true, true, false, true, false, false, false, false, true, false] rfl rfl (one_of HT_.out (by kernel_rfl)) (by decide) (fun K hK => ?_)
               refine Kd.R_lit_step k29 _ 29 ?hg (N := 41) ?hd (xs := ([] : List (S29))) (inner := []) (ok := fun _ => True) (okp := fun _ => True) ?hr ?hp (fun _ hk => hk) trivial (Below.refl _ _) (Nat.le_refl _) (by simp) ?_; (case hd => rfl); (case hg => rfl); (case hr => first | (go_simp; done) | (go_simp; rfl)); (case hp => exact (Reps.none _ _))
               intro v129 w35 ho36 hb hg_ hnew_
               clear hg_ hnew_
               (first | rw [← Ny128.out] at ho36 | (simp only [Int.reduceToNat] at ho36; rw [← Ny128.out] at ho36))
               have n0_ := Aside0.mk (Kd.R_elder' (by (with_reducible repeat (first | apply Kd.R_alloc | apply Kd.R_drewN | apply Kd.R_drew)); exact HO111.out) (Kd.R_base ho36) hb)
               have n1_ := Aside0.mk (Kd.R_elder' (by (with_reducible repeat (first | apply Kd.R_alloc | apply Kd.R_drewN | apply Kd.R_drew)); exact HO124.out) (Kd.R_base ho36) hb)
               have n2_ := Aside0.mk (Kd.R_lower (Kd.R_newB (Kd.R_new' (Kd.R_new' ho36 (Kd.R_lt (by (with_reducible repeat (first | apply Kd.R_alloc | apply Kd.R_drewN | apply Kd.R_drew)); exact HO111.out))) (Kd.R_lt (by (with_reducible repeat (first | apply Kd.R_alloc | apply Kd.R_drewN | apply Kd.R_drew)); exact HO124.out))) (g := gb101) (o := .cells #[.int .i64 a1_0, .int .i64 a1_1, .int .i64 a1_2, .int .i64 a1_3, .string a1_4, .int .i64 a1_5, .int .i64 a1_6] 29 (0, 0)) (by (with_reducible repeat (first | refine blk_drewN ?_ _ | refine blk_drew ?_ | refine blk_alloc ?_ _)); exact BK101.out)) (below_size (by repeat (first | (with_reducible first | exact HB.out | apply below_alloc | apply pw_below_drewN | apply below_drew1 | refine below_set ?_ GE101.out | refine below_set ?_ GE114.out | refine below_set ?_ GE127.out | refine below_set ?_ GE147.out) | exact HB.out))))
               have n3_ := Aside0.mk (blk_below (g := gb101) (o := .cells #[.int .i64 a1_0, .int .i64 a1_1, .int .i64 a1_2, .int .i64 a1_3, .string a1_4, .int .i64 a1_5, .int .i64 a1_6] 29 (0, 0)) (by (with_reducible repeat (first | refine blk_drewN ?_ _ | refine blk_drew ?_ | refine blk_alloc ?_ _)); exact BK101.out) hb)
               have n4_ := Aside0.mk (blk_below (g := gb114) (o := .cells #[.int .i64 t103, .int .i64 t104, .int .i64 t105, .int .i64 t106, .int .i64 t107, .int .i64 t108, .slice Ao22 t109.length co22] 26 (0, 0)) (by (with_reducible repeat (first | refine blk_drewN ?_ _ | refine blk_drew ?_ | refine blk_alloc ?_ _)); exact BK114.out) hb)
               have n5_ := Aside0.mk (blk_below (g := gb127) (o := .cells #[.int .i64 t103, .int .i64 t104, .int .i64 t105, .int .i64 t106, .int .i64 t107, .int .i64 t108, .slice Ao30 t122.length co30] 26 (0, 0)) (by (with_reducible repeat (first | refine blk_drewN ?_ _ | refine blk_drew ?_ | refine blk_alloc ?_ _)); exact BK127.out) hb)
               have n6_ := Aside0.mk (blk_below (g := gb147) (o := .cells #[.int .i64 0, .int .i64 0, .int .i64 0, .int .i64 0, .int .i64 0, .int .i64 0, .slice none 0 0] 26 (0, 0)) (by (with_reducible repeat (first | refine blk_drewN ?_ _ | refine blk_drew ?_ | refine blk_alloc ?_ _)); exact BK147.out) hb)
               have n7_ := Aside0.mk (below_step (by repeat (first | (with_reducible first | exact HB.out | apply below_alloc | apply pw_below_drewN | apply below_drew1 | refine below_set ?_ GE101.out | refine below_set ?_ GE114.out | refine below_set ?_ GE127.out | refine below_set ?_ GE147.out) | exact HB.out)) hb)
               clear HO111
               clear HO124
               clear BK101
               clear BK114
               clear BK127
               clear BK147
               clear HB
               have HO111 := n0_
               have HO124 := n1_
               have HO130 := n2_
               have BK101 := n3_
               have BK114 := n4_
               have BK127 := n5_
               have BK147 := n6_
               have HB := n7_
               clear n0_ n1_ n2_ n3_ n4_ n5_ n6_ n7_
               clear hb ho36
               refine hK.out _ _ ⟨(blk_cell BK114.out 0).trans rfl, (blk_cell BK114.out 1).trans rfl, (blk_cell BK114.out 2).trans rfl, (blk_cell BK114.out 3).trans rfl, (blk_cell BK114.out 4).trans rfl, (blk_cell BK114.out 5).trans rfl, (blk_cell BK114.out 6).trans rfl, (blk_cell BK101.out 0).trans rfl, (blk_cell BK101.out 1).trans rfl, (blk_cell BK101.out 2).trans rfl, (blk_cell BK101.out 3).trans rfl, (blk_cell BK101.out 4).trans rfl, (blk_cell BK101.out 5).trans rfl, (blk_cell BK101.out 6).trans rfl⟩ (fun hHeld => ?_)
               clear hK K
               refine norm_ (a' := ?_) ?_ ?_
               rotate_left
               ·show Act.put _ (some 41) _ = _
                simp only [Act.put, List.setIfInBounds_toArray, List.set_cons_zero, List.set_cons_succ, i64_w, i32_w]
                rfl
               exact norm_ (by first | (simp only [putAll, Act.put, List.setIfInBounds_toArray, List.set_cons_zero, List.set_cons_succ]; done) | (simp only [putAll, Act.put, List.setIfInBounds_toArray, List.set_cons_zero, List.set_cons_succ]; rfl)) (hJ2_11 (v129, gb147) _ ⟨hHeld, (by (with_reducible repeat (first | apply Kd.R_alloc | apply Kd.R_drewN | apply Kd.R_drew)); exact Kd.R_mono HO111.out (fun _ hk => ⟨hk.1.1, ⟨hk.2, hk.1.2⟩⟩)), (by (with_reducible repeat (first | apply Kd.R_alloc | apply Kd.R_drewN | apply Kd.R_drew)); exact Kd.R_mono HO124.out (fun _ hk => ⟨hk.1.1, ⟨hk.2, hk.1.2⟩⟩)), (by (with_reducible repeat (first | apply Kd.R_alloc | apply Kd.R_drewN | apply Kd.R_drew)); exact Kd.R_mono HO130.out (fun _ hk => ⟨hk.1.1.2, ⟨hk.1.2, hk.2⟩⟩)), (by (with_reducible repeat (first | refine blk_drewN ?_ _ | refine blk_drew ?_ | refine blk_alloc ?_ _)); exact BK101.out), (by (with_reducible repeat (first | refine blk_drewN ?_ _ | refine blk_drew ?_ | refine blk_alloc ?_ _)); exact BK114.out), (by (with_reducible repeat (first | refine blk_drewN ?_ _ | refine blk_drew ?_ | refine blk_alloc ?_ _)); exact BK127.out), (by (with_reducible repeat (first | refine blk_drewN ?_ _ | refine blk_drew ?_ | refine blk_alloc ?_ _)); exact BK147.out), GW147.out, GE147.out, NB101_147.out, NB147_101.out, NB114_147.out, NB147_114.out, NB127_147.out, NB147_127.out, (by repeat (first | (with_reducible first | exact HB.out | apply below_alloc | apply pw_below_drewN | apply below_drew1 | refine below_set ?_ GE101.out | refine below_set ?_ GE114.out | refine below_set ?_ GE127.out | refine below_set ?_ GE147.out) | exact HB.out))⟩)
             ·skip
              rintro v129 w35 ⟨hS_, h0_, h1_, h2_, h3_, h4_, h5_, h6_⟩
              have n0_ : Aside0 (Kd.R k29 29 w35 w.heap.size (fun k_ => some k_ ≠ (.slice Ao30 t122.length co30 : Value).ownBlock ∧ some k_ ≠ (v129 : Value).ownBlock ∧ k_ ≠ gb101) (.slice Ao22 t109.length co22) t109) := ⟨h0_⟩
              have n1_ : Aside0 (Kd.R k29 29 w35 w.heap.size (fun k_ => some k_ ≠ (.slice Ao22 t109.length co22 : Value).ownBlock ∧ some k_ ≠ (v129 : Value).ownBlock ∧ k_ ≠ gb101) (.slice Ao30 t122.length co30) t122) := ⟨h1_⟩
              have n2_ : Aside0 (Kd.R k29 29 w35 w.heap.size (fun k_ => some k_ ≠ (.slice Ao22 t109.length co22 : Value).ownBlock ∧ some k_ ≠ (.slice Ao30 t122.length co30 : Value).ownBlock ∧ k_ ≠ gb101) v129 y128) := ⟨h2_⟩
              have n3_ : Aside0 (w35.heap[gb101]? = some (.cells #[.int .i64 a1_0, .int .i64 a1_1, .int .i64 a1_2, .int .i64 a1_3, .string a1_4, .int .i64 a1_5, .int .i64 a1_6] 29 (0, 0))) := ⟨h3_⟩
              have n4_ : Aside0 (w35.heap[gb114]? = some (.cells #[.int .i64 t103, .int .i64 t104, .int .i64 t105, .int .i64 t106, .int .i64 t107, .int .i64 t108, .slice Ao22 t109.length co22] 26 (0, 0))) := ⟨h4_⟩
              have n5_ : Aside0 (w35.heap[gb127]? = some (.cells #[.int .i64 t103, .int .i64 t104, .int .i64 t105, .int .i64 t106, .int .i64 t107, .int .i64 t108, .slice Ao30 t122.length co30] 26 (0, 0))) := ⟨h5_⟩
              have n6_ : Aside0 (Below w.heap.size w w35) := ⟨h6_⟩
              clear HO111
              clear HO124
              clear BK101
              clear BK114
              clear BK127
              clear HB
              clear h0_ h1_ h2_ h3_ h4_ h5_ h6_
              have HO111 := n0_
              have HO124 := n1_
              have HO130 := n2_
              have BK101 := n3_
              have BK114 := n4_
              have BK127 := n5_
              have HB := n6_
              clear n0_ n1_ n2_ n3_ n4_ n5_ n6_
              have hHeld : w35.cell? ⟨gb114, 0, none⟩ = some (.int .i64 t103) ∧ w35.cell? ⟨gb114, 1, none⟩ = some (.int .i64 t104) ∧ w35.cell? ⟨gb114, 2, none⟩ = some (.int .i64 t105) ∧ w35.cell? ⟨gb114, 3, none⟩ = some (.int .i64 t106) ∧ w35.cell? ⟨gb114, 4, none⟩ = some (.int .i64 t107) ∧ w35.cell? ⟨gb114, 5, none⟩ = some (.int .i64 t108) ∧ w35.cell? ⟨gb114, 6, none⟩ = some (.slice Ao22 t109.length co22) ∧ w35.cell? ⟨gb101, 0, none⟩ = some (.int .i64 a1_0) ∧ w35.cell? ⟨gb101, 1, none⟩ = some (.int .i64 a1_1) ∧ w35.cell? ⟨gb101, 2, none⟩ = some (.int .i64 a1_2) ∧ w35.cell? ⟨gb101, 3, none⟩ = some (.int .i64 a1_3) ∧ w35.cell? ⟨gb101, 4, none⟩ = some (.string a1_4) ∧ w35.cell? ⟨gb101, 5, none⟩ = some (.int .i64 a1_5) ∧ w35.cell? ⟨gb101, 6, none⟩ = some (.int .i64 a1_6) := hS_
              refine norm_ (a' := ?_) ?_ ?_
              rotate_left
              ·simp only [putAll, Act.put, List.setIfInBounds_toArray, List.set_cons_zero, List.set_cons_succ]
               rfl
              refine two_ (i := 5) (j := 11) (Ni := some 44) (Nj := some 12) #[true, true, true, true, true, true, true, false, false, false, false, false, false] #[true, true, true, true, true, false, true, false, false, false, false, true, false] rfl rfl rfl rfl (two_of HT_.out (by kernel_rfl)) (by decide) (by decide) (fun K hK => ?_) (fun K hK => ?_)
              ·skip
               refine Kd.R_append_rows_step k29 (w0 := w) w.heap.size (by rfl) (.tmp 41) (.tmp 43) 24 29 (.agg #[(.int .i64 0), (.int .i64 0), (.int .i64 0), (.int .i64 0), (.string ⟨#[]⟩), (.int .i64 0), (.int .i64 0)]) 64 rfl Tryd.underlying24 info29 rfl (by decide) (by omega) v129 y128 t109 _ _ _ (fun k_ => some k_ ≠ (.slice Ao22 t109.length co22 : Value).ownBlock ∧ some k_ ≠ (.slice Ao30 t122.length co30 : Value).ownBlock ∧ k_ ≠ gb101) (fun _ => False) rfl rfl ?aO ?aR (fun _ _ h => h) (fun _ h => h.elim) ?aF ?aB ?aS ?aL ?_
               (case aR => repeat (first | exact (Kd.R_reads' HO111.out).2.2 | (with_reducible refine Kd.C_alloc ?_ _) | (with_reducible refine Kd.C_drewN ?_ _) | (with_reducible refine Kd.C_drew ?_)))
               (case aB => exact (by repeat (first | (with_reducible first | exact HB.out | apply below_alloc | apply pw_below_drewN | apply below_drew1 | refine below_set ?_ GE101.out | refine below_set ?_ GE114.out | refine below_set ?_ GE127.out) | exact HB.out)))
               (case aF => exact (fun k_ hk => ⟨Kd.fresh' (Kd.R_lt (by (with_reducible repeat (first | apply Kd.R_alloc | apply Kd.R_drewN | apply Kd.R_drew)); exact HO111.out)) k_ hk, Kd.fresh' (Kd.R_lt (by (with_reducible repeat (first | apply Kd.R_alloc | apply Kd.R_drewN | apply Kd.R_drew)); exact HO124.out)) k_ hk, Kd.freshB (g := gb101) (o := .cells #[.int .i64 a1_0, .int .i64 a1_1, .int .i64 a1_2, .int .i64 a1_3, .string a1_4, .int .i64 a1_5, .int .i64 a1_6] 29 (0, 0)) (by (with_reducible repeat (first | refine blk_drewN ?_ _ | refine blk_drew ?_ | refine blk_alloc ?_ _)); exact BK101.out) k_ hk⟩))
               (case aO => exact (by (with_reducible repeat (first | apply Kd.R_alloc | apply Kd.R_drewN | apply Kd.R_drew)); exact HO130.out))
               (case aS => exact (below_size (by repeat (first | (with_reducible first | exact HB.out | apply below_alloc | apply pw_below_drewN | apply below_drew1 | refine below_set ?_ GE101.out | refine below_set ?_ GE114.out | refine below_set ?_ GE127.out) | exact HB.out))))
               (case aL => have := LMc12.out; omega)
               intro v132 w36 ho hb hg hat
               rw [← Ny131.out] at ho
               have n0_ := Aside0.mk (blk_grown (g := gb101) (o := .cells #[.int .i64 a1_0, .int .i64 a1_1, .int .i64 a1_2, .int .i64 a1_3, .string a1_4, .int .i64 a1_5, .int .i64 a1_6] 29 (0, 0)) (by (with_reducible repeat (first | refine blk_drewN ?_ _ | refine blk_drew ?_ | refine blk_alloc ?_ _)); exact BK101.out) hg (Kd.R_away HO130.out (fun _ hk => hk.2.2)))
               have n1_ := Aside0.mk (Kd.R_after (ok := (fun k_ => some k_ ≠ (.slice Ao30 t122.length co30 : Value).ownBlock ∧ k_ ≠ gb101)) (by (with_reducible repeat (first | apply Kd.R_alloc | apply Kd.R_drewN | apply Kd.R_drew)); exact Kd.R_mono HO111.out (fun _ hk => ⟨⟨hk.1, hk.2.2⟩, hk.2.1⟩)) hg hat)
               have n2_ := Aside0.mk (blk_grown (g := gb114) (o := .cells #[.int .i64 t103, .int .i64 t104, .int .i64 t105, .int .i64 t106, .int .i64 t107, .int .i64 t108, .slice Ao22 t109.length co22] 26 (0, 0)) (by (with_reducible repeat (first | refine blk_drewN ?_ _ | refine blk_drew ?_ | refine blk_alloc ?_ _)); exact BK114.out) hg (Kd.R_ne HO130.out BK114.out (by decide)))
               have n3_ := Aside0.mk (Kd.R_after (ok := (fun k_ => some k_ ≠ (.slice Ao22 t109.length co22 : Value).ownBlock ∧ k_ ≠ gb101)) (by (with_reducible repeat (first | apply Kd.R_alloc | apply Kd.R_drewN | apply Kd.R_drew)); exact Kd.R_mono HO124.out (fun _ hk => ⟨⟨hk.1, hk.2.2⟩, hk.2.1⟩)) hg hat)
               have n4_ := Aside0.mk (blk_grown (g := gb127) (o := .cells #[.int .i64 t103, .int .i64 t104, .int .i64 t105, .int .i64 t106, .int .i64 t107, .int .i64 t108, .slice Ao30 t122.length co30] 26 (0, 0)) (by (with_reducible repeat (first | refine blk_drewN ?_ _ | refine blk_drew ?_ | refine blk_alloc ?_ _)); exact BK127.out) hg (Kd.R_ne HO130.out BK127.out (by decide)))
               have n5_ := Aside0.mk (hb)
               have n6_ := Aside0.mk (ho)
               clear BK101
               clear HO111
               clear BK114
               clear HO124
               clear BK127
               clear HB
               clear HO130
               have BK101 := n0_
               have HO111 := n1_
               have BK114 := n2_
               have HO124 := n3_
               have BK127 := n4_
               have HB := n5_
               have HO133 := n6_
               clear n0_ n1_ n2_ n3_ n4_ n5_ n6_
               clear ho hb hg hat
               refine hK.out _ _ ⟨(blk_cell BK114.out 0).trans rfl, (blk_cell BK114.out 1).trans rfl, (blk_cell BK114.out 2).trans rfl, (blk_cell BK114.out 3).trans rfl, (blk_cell BK114.out 4).trans rfl, (blk_cell BK114.out 5).trans rfl, (blk_cell BK114.out 6).trans rfl, (blk_cell BK101.out 0).trans rfl, (blk_cell BK101.out 1).trans rfl, (blk_cell BK101.out 2).trans rfl, (blk_cell BK101.out 3).trans rfl, (blk_cell BK101.out 4).trans rfl, (blk_cell BK101.out 5).trans rfl, (blk_cell BK101.out 6).trans rfl⟩ (fun hHeld => ?_)
               clear hK K
               refine norm_ (a' := ?_) ?_ ?_
               rotate_left
               ·show Act.put _ (some 44) _ = _
                simp only [Act.put, List.setIfInBounds_toArray, List.set_cons_zero, List.set_cons_succ, i64_w, i32_w]
                rfl
               exact norm_ (by first | (simp only [putAll, Act.put, List.setIfInBounds_toArray, List.set_cons_zero, List.set_cons_succ]; done) | (simp only [putAll, Act.put, List.setIfInBounds_toArray, List.set_cons_zero, List.set_cons_succ]; rfl)) (hJ2_5 (v129, v132) _ ⟨hHeld, (by (with_reducible repeat (first | apply Kd.R_alloc | apply Kd.R_drewN | apply Kd.R_drew)); exact Kd.R_mono HO111.out (fun _ hk => ⟨hk.1.1, ⟨hk.2, hk.1.2⟩⟩)), (by (with_reducible repeat (first | apply Kd.R_alloc | apply Kd.R_drewN | apply Kd.R_drew)); exact Kd.R_mono HO124.out (fun _ hk => ⟨hk.1.1, ⟨hk.2, hk.1.2⟩⟩)), (by (with_reducible repeat (first | apply Kd.R_alloc | apply Kd.R_drewN | apply Kd.R_drew)); exact HO133.out), (by (with_reducible repeat (first | refine blk_drewN ?_ _ | refine blk_drew ?_ | refine blk_alloc ?_ _)); exact BK101.out), (by (with_reducible repeat (first | refine blk_drewN ?_ _ | refine blk_drew ?_ | refine blk_alloc ?_ _)); exact BK114.out), (by (with_reducible repeat (first | refine blk_drewN ?_ _ | refine blk_drew ?_ | refine blk_alloc ?_ _)); exact BK127.out), (by repeat (first | (with_reducible first | exact HB.out | apply below_alloc | apply pw_below_drewN | apply below_drew1 | refine below_set ?_ GE101.out | refine below_set ?_ GE114.out | refine below_set ?_ GE127.out) | exact HB.out))⟩)
              ·skip
               refine box_step ?hg (N := 12) ?hd (cs := #[.int .i64 0, .int .i64 0, .int .i64 0, .int .i64 0, .int .i64 0, .int .i64 0, .slice none 0 0]) (t := 26) ?hr ?_; (case hd => rfl); (case hg => rfl); (case hr => first | (go_simp; done) | (go_simp; rfl))
               intro gb147 hg w36 hbox hb
               have n0_ := Aside0.mk (Kd.R_below (by (with_reducible repeat (first | apply Kd.R_alloc | apply Kd.R_drewN | apply Kd.R_drew)); exact HO111.out) hb)
               have n1_ := Aside0.mk (Kd.R_below (by (with_reducible repeat (first | apply Kd.R_alloc | apply Kd.R_drewN | apply Kd.R_drew)); exact HO124.out) hb)
               have n2_ := Aside0.mk (Kd.R_below (by (with_reducible repeat (first | apply Kd.R_alloc | apply Kd.R_drewN | apply Kd.R_drew)); exact HO130.out) hb)
               have n3_ := Aside0.mk (blk_below (g := gb101) (o := .cells #[.int .i64 a1_0, .int .i64 a1_1, .int .i64 a1_2, .int .i64 a1_3, .string a1_4, .int .i64 a1_5, .int .i64 a1_6] 29 (0, 0)) (by (with_reducible repeat (first | refine blk_drewN ?_ _ | refine blk_drew ?_ | refine blk_alloc ?_ _)); exact BK101.out) hb)
               have n4_ := Aside0.mk (blk_below (g := gb114) (o := .cells #[.int .i64 t103, .int .i64 t104, .int .i64 t105, .int .i64 t106, .int .i64 t107, .int .i64 t108, .slice Ao22 t109.length co22] 26 (0, 0)) (by (with_reducible repeat (first | refine blk_drewN ?_ _ | refine blk_drew ?_ | refine blk_alloc ?_ _)); exact BK114.out) hb)
               have n5_ := Aside0.mk (blk_below (g := gb127) (o := .cells #[.int .i64 t103, .int .i64 t104, .int .i64 t105, .int .i64 t106, .int .i64 t107, .int .i64 t108, .slice Ao30 t122.length co30] 26 (0, 0)) (by (with_reducible repeat (first | refine blk_drewN ?_ _ | refine blk_drew ?_ | refine blk_alloc ?_ _)); exact BK127.out) hb)
               have n6_ := Aside0.mk (below_step (by repeat (first | (with_reducible first | exact HB.out | apply below_alloc | apply pw_below_drewN | apply below_drew1 | refine below_set ?_ GE101.out | refine below_set ?_ GE114.out | refine below_set ?_ GE127.out) | exact HB.out)) hb)
               have n7_ := Aside0.mk (hbox)
               have n8_ := Aside0.mk ((by rw [hg]; exact (below_size (by repeat (first | (with_reducible first | exact HB.out | apply below_alloc | apply pw_below_drewN | apply below_drew1 | refine below_set ?_ GE101.out | refine below_set ?_ GE114.out | refine below_set ?_ GE127.out) | exact HB.out))) : w.heap.size ≤ gb147))
               have n9_ := Aside0.mk ((by rw [hg]; exact (below_size (by repeat (first | (with_reducible first | exact HB.out | apply below_alloc | apply pw_below_drewN | apply below_drew1 | refine below_set ?_ GE101.out | refine below_set ?_ GE114.out | refine below_set ?_ GE127.out) | exact HB.out))) : w.heap.size ≤ gb147))
               have n10_ := Aside0.mk ((by rw [hg]; exact Nat.ne_of_lt (blk_lt (g := gb101) (o := .cells #[.int .i64 a1_0, .int .i64 a1_1, .int .i64 a1_2, .int .i64 a1_3, .string a1_4, .int .i64 a1_5, .int .i64 a1_6] 29 (0, 0)) (by (with_reducible repeat (first | refine blk_drewN ?_ _ | refine blk_drew ?_ | refine blk_alloc ?_ _)); exact BK101.out)) : gb101 ≠ gb147))
               have n11_ := Aside0.mk ((by rw [hg]; exact Nat.ne_of_gt (blk_lt (g := gb101) (o := .cells #[.int .i64 a1_0, .int .i64 a1_1, .int .i64 a1_2, .int .i64 a1_3, .string a1_4, .int .i64 a1_5, .int .i64 a1_6] 29 (0, 0)) (by (with_reducible repeat (first | refine blk_drewN ?_ _ | refine blk_drew ?_ | refine blk_alloc ?_ _)); exact BK101.out)) : gb147 ≠ gb101))
               have n12_ := Aside0.mk ((by rw [hg]; exact Nat.ne_of_lt (blk_lt (g := gb114) (o := .cells #[.int .i64 t103, .int .i64 t104, .int .i64 t105, .int .i64 t106, .int .i64 t107, .int .i64 t108, .slice Ao22 t109.length co22] 26 (0, 0)) (by (with_reducible repeat (first | refine blk_drewN ?_ _ | refine blk_drew ?_ | refine blk_alloc ?_ _)); exact BK114.out)) : gb114 ≠ gb147))
               have n13_ := Aside0.mk ((by rw [hg]; exact Nat.ne_of_gt (blk_lt (g := gb114) (o := .cells #[.int .i64 t103, .int .i64 t104, .int .i64 t105, .int .i64 t106, .int .i64 t107, .int .i64 t108, .slice Ao22 t109.length co22] 26 (0, 0)) (by (with_reducible repeat (first | refine blk_drewN ?_ _ | refine blk_drew ?_ | refine blk_alloc ?_ _)); exact BK114.out)) : gb147 ≠ gb114))
               have n14_ := Aside0.mk ((by rw [hg]; exact Nat.ne_of_lt (blk_lt (g := gb127) (o := .cells #[.int .i64 t103, .int .i64 t104, .int .i64 t105, .int .i64 t106, .int .i64 t107, .int .i64 t108, .slice Ao30 t122.length co30] 26 (0, 0)) (by (with_reducible repeat (first | refine blk_drewN ?_ _ | refine blk_drew ?_ | refine blk_alloc ?_ _)); exact BK127.out)) : gb127 ≠ gb147))
               have n15_ := Aside0.mk ((by rw [hg]; exact Nat.ne_of_gt (blk_lt (g := gb127) (o := .cells #[.int .i64 t103, .int .i64 t104, .int .i64 t105, .int .i64 t106, .int .i64 t107, .int .i64 t108, .slice Ao30 t122.length co30] 26 (0, 0)) (by (with_reducible repeat (first | refine blk_drewN ?_ _ | refine blk_drew ?_ | refine blk_alloc ?_ _)); exact BK127.out)) : gb147 ≠ gb127))
               clear HO111
               clear HO124
               clear HO130
               clear BK101
               clear BK114
               clear BK127
               clear HB
               have HO111 := n0_
               have HO124 := n1_
               have HO130 := n2_
               have BK101 := n3_
               have BK114 := n4_
               have BK127 := n5_
               have HB := n6_
               have BK147 := n7_
               have GW147 := n8_
               have GE147 := n9_
               have NB101_147 := n10_
               have NB147_101 := n11_
               have NB114_147 := n12_
               have NB147_114 := n13_
               have NB127_147 := n14_
               have NB147_127 := n15_
               clear n0_ n1_ n2_ n3_ n4_ n5_ n6_ n7_ n8_ n9_ n10_ n11_ n12_ n13_ n14_ n15_
               clear hb hbox hg
               refine hK.out _ _ ⟨(blk_cell BK114.out 0).trans rfl, (blk_cell BK114.out 1).trans rfl, (blk_cell BK114.out 2).trans rfl, (blk_cell BK114.out 3).trans rfl, (blk_cell BK114.out 4).trans rfl, (blk_cell BK114.out 5).trans rfl, (blk_cell BK114.out 6).trans rfl, (blk_cell BK101.out 0).trans rfl, (blk_cell BK101.out 1).trans rfl, (blk_cell BK101.out 2).trans rfl, (blk_cell BK101.out 3).trans rfl, (blk_cell BK101.out 4).trans rfl, (blk_cell BK101.out 5).trans rfl, (blk_cell BK101.out 6).trans rfl⟩ (fun hHeld => ?_)
               clear hK K
               refine norm_ (a' := ?_) ?_ ?_
               rotate_left
               ·show Act.put _ (some 12) _ = _
                simp only [Act.put, List.setIfInBounds_toArray, List.set_cons_zero, List.set_cons_succ, i64_w, i32_w]
                rfl
               exact norm_ (by first | (simp only [putAll, Act.put, List.setIfInBounds_toArray, List.set_cons_zero, List.set_cons_succ]; done) | (simp only [putAll, Act.put, List.setIfInBounds_toArray, List.set_cons_zero, List.set_cons_succ]; rfl)) (hJ2_11 (v129, gb147) _ ⟨hHeld, (by (with_reducible repeat (first | apply Kd.R_alloc | apply Kd.R_drewN | apply Kd.R_drew)); exact HO111.out), (by (with_reducible repeat (first | apply Kd.R_alloc | apply Kd.R_drewN | apply Kd.R_drew)); exact HO124.out), (by (with_reducible repeat (first | apply Kd.R_alloc | apply Kd.R_drewN | apply Kd.R_drew)); exact HO130.out), (by (with_reducible repeat (first | refine blk_drewN ?_ _ | refine blk_drew ?_ | refine blk_alloc ?_ _)); exact BK101.out), (by (with_reducible repeat (first | refine blk_drewN ?_ _ | refine blk_drew ?_ | refine blk_alloc ?_ _)); exact BK114.out), (by (with_reducible repeat (first | refine blk_drewN ?_ _ | refine blk_drew ?_ | refine blk_alloc ?_ _)); exact BK127.out), (by (with_reducible repeat (first | refine blk_drewN ?_ _ | refine blk_drew ?_ | refine blk_alloc ?_ _)); exact BK147.out), GW147.out, GE147.out, NB101_147.out, NB147_101.out, NB114_147.out, NB147_114.out, NB127_147.out, NB147_127.out, (by repeat (first | (with_reducible first | exact HB.out | apply below_alloc | apply pw_below_drewN | apply below_drew1 | refine below_set ?_ GE101.out | refine below_set ?_ GE114.out | refine below_set ?_ GE127.out | refine below_set ?_ GE147.out) | exact HB.out))⟩)
            ·skip
             rintro ⟨v129, gb147⟩ w36 ⟨hS_, h0_, h1_, h2_, h3_, h4_, h5_, h6_, h7_, h8_, h9_, h10_, h11_, h12_, h13_, h14_, h15_⟩
             have n0_ : Aside0 (Kd.R k29 29 w36 w.heap.size (fun k_ => some k_ ≠ (.slice Ao30 t122.length co30 : Value).ownBlock ∧ some k_ ≠ (v129 : Value).ownBlock ∧ k_ ≠ gb101) (.slice Ao22 t109.length co22) t109) := ⟨h0_⟩
             have n1_ : Aside0 (Kd.R k29 29 w36 w.heap.size (fun k_ => some k_ ≠ (.slice Ao22 t109.length co22 : Value).ownBlock ∧ some k_ ≠ (v129 : Value).ownBlock ∧ k_ ≠ gb101) (.slice Ao30 t122.length co30) t122) := ⟨h1_⟩
             have n2_ : Aside0 (Kd.R k29 29 w36 w.heap.size (fun k_ => some k_ ≠ (.slice Ao22 t109.length co22 : Value).ownBlock ∧ some k_ ≠ (.slice Ao30 t122.length co30 : Value).ownBlock ∧ k_ ≠ gb101) v129 y128) := ⟨h2_⟩
             have n3_ : Aside0 (w36.heap[gb101]? = some (.cells #[.int .i64 a1_0, .int .i64 a1_1, .int .i64 a1_2, .int .i64 a1_3, .string a1_4, .int .i64 a1_5, .int .i64 a1_6] 29 (0, 0))) := ⟨h3_⟩
             have n4_ : Aside0 (w36.heap[gb114]? = some (.cells #[.int .i64 t103, .int .i64 t104, .int .i64 t105, .int .i64 t106, .int .i64 t107, .int .i64 t108, .slice Ao22 t109.length co22] 26 (0, 0))) := ⟨h4_⟩
             have n5_ : Aside0 (w36.heap[gb127]? = some (.cells #[.int .i64 t103, .int .i64 t104, .int .i64 t105, .int .i64 t106, .int .i64 t107, .int .i64 t108, .slice Ao30 t122.length co30] 26 (0, 0))) := ⟨h5_⟩
             have n6_ : Aside0 (w36.heap[gb147]? = some (.cells #[.int .i64 0, .int .i64 0, .int .i64 0, .int .i64 0, .int .i64 0, .int .i64 0, .slice none 0 0] 26 (0, 0))) := ⟨h6_⟩
             have n7_ : Aside0 (w.heap.size ≤ gb147) := ⟨h7_⟩
             have n8_ : Aside0 (w.heap.size ≤ gb147) := ⟨h8_⟩
             have n9_ : Aside0 (gb101 ≠ gb147) := ⟨h9_⟩
             have n10_ : Aside0 (gb147 ≠ gb101) := ⟨h10_⟩
             have n11_ : Aside0 (gb114 ≠ gb147) := ⟨h11_⟩
             have n12_ : Aside0 (gb147 ≠ gb114) := ⟨h12_⟩
             have n13_ : Aside0 (gb127 ≠ gb147) := ⟨h13_⟩
             have n14_ : Aside0 (gb147 ≠ gb127) := ⟨h14_⟩
             have n15_ : Aside0 (Below w.heap.size w w36) := ⟨h15_⟩
             clear HO111
             clear HO124
             clear BK101
             clear BK114
             clear BK127
             clear HB
             clear h0_ h1_ h2_ h3_ h4_ h5_ h6_ h7_ h8_ h9_ h10_ h11_ h12_ h13_ h14_ h15_
             have HO111 := n0_
             have HO124 := n1_
             have HO130 := n2_
             have BK101 := n3_
             have BK114 := n4_
             have BK127 := n5_
             have BK147 := n6_
             have GW147 := n7_
             have GE147 := n8_
             have NB101_147 := n9_
             have NB147_101 := n10_
             have NB114_147 := n11_
             have NB147_114 := n12_
             have NB127_147 := n13_
             have NB147_127 := n14_
             have HB := n15_
             clear n0_ n1_ n2_ n3_ n4_ n5_ n6_ n7_ n8_ n9_ n10_ n11_ n12_ n13_ n14_ n15_
             have hHeld : w36.cell? ⟨gb114, 0, none⟩ = some (.int .i64 t103) ∧ w36.cell? ⟨gb114, 1, none⟩ = some (.int .i64 t104) ∧ w36.cell? ⟨gb114, 2, none⟩ = some (.int .i64 t105) ∧ w36.cell? ⟨gb114, 3, none⟩ = some (.int .i64 t106) ∧ w36.cell? ⟨gb114, 4, none⟩ = some (.int .i64 t107) ∧ w36.cell? ⟨gb114, 5, none⟩ = some (.int .i64 t108) ∧ w36.cell? ⟨gb114, 6, none⟩ = some (.slice Ao22 t109.length co22) ∧ w36.cell? ⟨gb101, 0, none⟩ = some (.int .i64 a1_0) ∧ w36.cell? ⟨gb101, 1, none⟩ = some (.int .i64 a1_1) ∧ w36.cell? ⟨gb101, 2, none⟩ = some (.int .i64 a1_2) ∧ w36.cell? ⟨gb101, 3, none⟩ = some (.int .i64 a1_3) ∧ w36.cell? ⟨gb101, 4, none⟩ = some (.string a1_4) ∧ w36.cell? ⟨gb101, 5, none⟩ = some (.int .i64 a1_5) ∧ w36.cell? ⟨gb101, 6, none⟩ = some (.int .i64 a1_6) := hS_
             refine norm_ (a' := ?_) ?_ ?_
             rotate_left
             ·simp only [putAll, Act.put, List.setIfInBounds_toArray, List.set_cons_zero, List.set_cons_succ]
              rfl
             refine one_ (i := 5) (N := some 44) #[true, true, true, true, true, true, true, false, false, false, false, true, false] rfl rfl (one_of HT_.out (by kernel_rfl)) (by decide) (fun K hK => ?_)
             refine Kd.R_append_rows_step k29 (w0 := w) w.heap.size (by rfl) (.tmp 41) (.tmp 43) 24 29 (.agg #[(.int .i64 0), (.int .i64 0), (.int .i64 0), (.int .i64 0), (.string ⟨#[]⟩), (.int .i64 0), (.int .i64 0)]) 64 rfl Tryd.underlying24 info29 rfl (by decide) (by omega) v129 y128 t109 _ _ _ (fun k_ => some k_ ≠ (.slice Ao22 t109.length co22 : Value).ownBlock ∧ some k_ ≠ (.slice Ao30 t122.length co30 : Value).ownBlock ∧ k_ ≠ gb101) (fun _ => False) rfl rfl ?aO ?aR (fun _ _ h => h) (fun _ h => h.elim) ?aF ?aB ?aS ?aL ?_
             (case aR => repeat (first | exact (Kd.R_reads' HO111.out).2.2 | (with_reducible refine Kd.C_alloc ?_ _) | (with_reducible refine Kd.C_drewN ?_ _) | (with_reducible refine Kd.C_drew ?_)))
             (case aB => exact (by repeat (first | (with_reducible first | exact HB.out | apply below_alloc | apply pw_below_drewN | apply below_drew1 | refine below_set ?_ GE101.out | refine below_set ?_ GE114.out | refine below_set ?_ GE127.out | refine below_set ?_ GE147.out) | exact HB.out)))
             (case aF => exact (fun k_ hk => ⟨Kd.fresh' (Kd.R_lt (by (with_reducible repeat (first | apply Kd.R_alloc | apply Kd.R_drewN | apply Kd.R_drew)); exact HO111.out)) k_ hk, Kd.fresh' (Kd.R_lt (by (with_reducible repeat (first | apply Kd.R_alloc | apply Kd.R_drewN | apply Kd.R_drew)); exact HO124.out)) k_ hk, Kd.freshB (g := gb101) (o := .cells #[.int .i64 a1_0, .int .i64 a1_1, .int .i64 a1_2, .int .i64 a1_3, .string a1_4, .int .i64 a1_5, .int .i64 a1_6] 29 (0, 0)) (by (with_reducible repeat (first | refine blk_drewN ?_ _ | refine blk_drew ?_ | refine blk_alloc ?_ _)); exact BK101.out) k_ hk⟩))
             (case aO => exact (by (with_reducible repeat (first | apply Kd.R_alloc | apply Kd.R_drewN | apply Kd.R_drew)); exact HO130.out))
             (case aS => exact (below_size (by repeat (first | (with_reducible first | exact HB.out | apply below_alloc | apply pw_below_drewN | apply below_drew1 | refine below_set ?_ GE101.out | refine below_set ?_ GE114.out | refine below_set ?_ GE127.out | refine below_set ?_ GE147.out) | exact HB.out))))
             (case aL => have := LMc12.out; omega)
             intro v132 w37 ho hb hg hat
             rw [← Ny131.out] at ho
             have n0_ := Aside0.mk (blk_grown (g := gb101) (o := .cells #[.int .i64 a1_0, .int .i64 a1_1, .int .i64 a1_2, .int .i64 a1_3, .string a1_4, .int .i64 a1_5, .int .i64 a1_6] 29 (0, 0)) (by (with_reducible repeat (first | refine blk_drewN ?_ _ | refine blk_drew ?_ | refine blk_alloc ?_ _)); exact BK101.out) hg (Kd.R_away HO130.out (fun _ hk => hk.2.2)))
             have n1_ := Aside0.mk (Kd.R_after (ok := (fun k_ => some k_ ≠ (.slice Ao30 t122.length co30 : Value).ownBlock ∧ k_ ≠ gb101)) (by (with_reducible repeat (first | apply Kd.R_alloc | apply Kd.R_drewN | apply Kd.R_drew)); exact Kd.R_mono HO111.out (fun _ hk => ⟨⟨hk.1, hk.2.2⟩, hk.2.1⟩)) hg hat)
             have n2_ := Aside0.mk (blk_grown (g := gb114) (o := .cells #[.int .i64 t103, .int .i64 t104, .int .i64 t105, .int .i64 t106, .int .i64 t107, .int .i64 t108, .slice Ao22 t109.length co22] 26 (0, 0)) (by (with_reducible repeat (first | refine blk_drewN ?_ _ | refine blk_drew ?_ | refine blk_alloc ?_ _)); exact BK114.out) hg (Kd.R_ne HO130.out BK114.out (by decide)))
             have n3_ := Aside0.mk (Kd.R_after (ok := (fun k_ => some k_ ≠ (.slice Ao22 t109.length co22 : Value).ownBlock ∧ k_ ≠ gb101)) (by (with_reducible repeat (first | apply Kd.R_alloc | apply Kd.R_drewN | apply Kd.R_drew)); exact Kd.R_mono HO124.out (fun _ hk => ⟨⟨hk.1, hk.2.2⟩, hk.2.1⟩)) hg hat)
             have n4_ := Aside0.mk (blk_grown (g := gb127) (o := .cells #[.int .i64 t103, .int .i64 t104, .int .i64 t105, .int .i64 t106, .int .i64 t107, .int .i64 t108, .slice Ao30 t122.length co30] 26 (0, 0)) (by (with_reducible repeat (first | refine blk_drewN ?_ _ | refine blk_drew ?_ | refine blk_alloc ?_ _)); exact BK127.out) hg (Kd.R_ne HO130.out BK127.out (by decide)))
             have n5_ := Aside0.mk (blk_grown (g := gb147) (o := .cells #[.int .i64 0, .int .i64 0, .int .i64 0, .int .i64 0, .int .i64 0, .int .i64 0, .slice none 0 0] 26 (0, 0)) (by (with_reducible repeat (first | refine blk_drewN ?_ _ | refine blk_drew ?_ | refine blk_alloc ?_ _)); exact BK147.out) hg (Kd.R_ne HO130.out BK147.out (by decide)))
             have n6_ := Aside0.mk (hb)
             have n7_ := Aside0.mk (ho)
             clear BK101
             clear HO111
             clear BK114
             clear HO124
             clear BK127
             clear BK147
             clear HB
             clear HO130
             have BK101 := n0_
             have HO111 := n1_
             have BK114 := n2_
             have HO124 := n3_
             have BK127 := n4_
             have BK147 := n5_
             have HB := n6_
             have HO133 := n7_
             clear n0_ n1_ n2_ n3_ n4_ n5_ n6_ n7_
             clear ho hb hg hat
             refine hK.out _ _ ⟨(blk_cell BK114.out 0).trans rfl, (blk_cell BK114.out 1).trans rfl, (blk_cell BK114.out 2).trans rfl, (blk_cell BK114.out 3).trans rfl, (blk_cell BK114.out 4).trans rfl, (blk_cell BK114.out 5).trans rfl, (blk_cell BK114.out 6).trans rfl, (blk_cell BK101.out 0).trans rfl, (blk_cell BK101.out 1).trans rfl, (blk_cell BK101.out 2).trans rfl, (blk_cell BK101.out 3).trans rfl, (blk_cell BK101.out 4).trans rfl, (blk_cell BK101.out 5).trans rfl, (blk_cell BK101.out 6).trans rfl⟩ (fun hHeld => ?_)
             clear hK K
             refine norm_ (a' := ?_) ?_ ?_
             rotate_left
             ·show Act.put _ (some 44) _ = _
              simp only [Act.put, List.setIfInBounds_toArray, List.set_cons_zero, List.set_cons_succ, i64_w, i32_w]
              rfl
             exact norm_ (by first | (simp only [putAll, Act.put, List.setIfInBounds_toArray, List.set_cons_zero, List.set_cons_succ]; done) | (simp only [putAll, Act.put, List.setIfInBounds_toArray, List.set_cons_zero, List.set_cons_succ]; rfl)) (hJ2_5_11 (v129, v132, gb147) _ ⟨hHeld, (by (with_reducible repeat (first | apply Kd.R_alloc | apply Kd.R_drewN | apply Kd.R_drew)); exact Kd.R_mono HO111.out (fun _ hk => ⟨hk.1.1, ⟨hk.2, hk.1.2⟩⟩)), (by (with_reducible repeat (first | apply Kd.R_alloc | apply Kd.R_drewN | apply Kd.R_drew)); exact Kd.R_mono HO124.out (fun _ hk => ⟨hk.1.1, ⟨hk.2, hk.1.2⟩⟩)), (by (with_reducible repeat (first | apply Kd.R_alloc | apply Kd.R_drewN | apply Kd.R_drew)); exact HO133.out), (by (with_reducible repeat (first | refine blk_drewN ?_ _ | refine blk_drew ?_ | refine blk_alloc ?_ _)); exact BK101.out), (by (with_reducible repeat (first | refine blk_drewN ?_ _ | refine blk_drew ?_ | refine blk_alloc ?_ _)); exact BK114.out), (by (with_reducible repeat (first | refine blk_drewN ?_ _ | refine blk_drew ?_ | refine blk_alloc ?_ _)); exact BK127.out), (by (with_reducible repeat (first | refine blk_drewN ?_ _ | refine blk_drew ?_ | refine blk_alloc ?_ _)); exact BK147.out), GW147.out, GE147.out, NB101_147.out, NB147_101.out, NB114_147.out, NB147_114.out, NB127_147.out, NB147_127.out, (by repeat (first | (with_reducible first | exact HB.out | apply below_alloc | apply pw_below_drewN | apply below_drew1 | refine below_set ?_ GE101.out | refine below_set ?_ GE114.out | refine below_set ?_ GE127.out | refine below_set ?_ GE147.out) | exact HB.out))⟩)
           ·skip
            rintro ⟨v129, v132⟩ w36 ⟨hS_, h0_, h1_, h2_, h3_, h4_, h5_, h6_⟩
            have n0_ : Aside0 (Kd.R k29 29 w36 w.heap.size (fun k_ => some k_ ≠ (.slice Ao30 t122.length co30 : Value).ownBlock ∧ some k_ ≠ (v132 : Value).ownBlock ∧ k_ ≠ gb101) (.slice Ao22 t109.length co22) t109) := ⟨h0_⟩
            have n1_ : Aside0 (Kd.R k29 29 w36 w.heap.size (fun k_ => some k_ ≠ (.slice Ao22 t109.length co22 : Value).ownBlock ∧ some k_ ≠ (v132 : Value).ownBlock ∧ k_ ≠ gb101) (.slice Ao30 t122.length co30) t122) := ⟨h1_⟩
            have n2_ : Aside0 (Kd.R k29 29 w36 w.heap.size (fun k_ => some k_ ≠ (.slice Ao22 t109.length co22 : Value).ownBlock ∧ some k_ ≠ (.slice Ao30 t122.length co30 : Value).ownBlock ∧ k_ ≠ gb101) v132 y131) := ⟨h2_⟩
            have n3_ : Aside0 (w36.heap[gb101]? = some (.cells #[.int .i64 a1_0, .int .i64 a1_1, .int .i64 a1_2, .int .i64 a1_3, .string a1_4, .int .i64 a1_5, .int .i64 a1_6] 29 (0, 0))) := ⟨h3_⟩
            have n4_ : Aside0 (w36.heap[gb114]? = some (.cells #[.int .i64 t103, .int .i64 t104, .int .i64 t105, .int .i64 t106, .int .i64 t107, .int .i64 t108, .slice Ao22 t109.length co22] 26 (0, 0))) := ⟨h4_⟩
            have n5_ : Aside0 (w36.heap[gb127]? = some (.cells #[.int .i64 t103, .int .i64 t104, .int .i64 t105, .int .i64 t106, .int .i64 t107, .int .i64 t108, .slice Ao30 t122.length co30] 26 (0, 0))) := ⟨h5_⟩
            have n6_ : Aside0 (Below w.heap.size w w36) := ⟨h6_⟩
            clear HO111
            clear HO124
            clear BK101
            clear BK114
            clear BK127
            clear HB
            clear h0_ h1_ h2_ h3_ h4_ h5_ h6_
            have HO111 := n0_
            have HO124 := n1_
            have HO133 := n2_
            have BK101 := n3_
            have BK114 := n4_
            have BK127 := n5_
            have HB := n6_
            clear n0_ n1_ n2_ n3_ n4_ n5_ n6_
            have hHeld : w36.cell? ⟨gb114, 0, none⟩ = some (.int .i64 t103) ∧ w36.cell? ⟨gb114, 1, none⟩ = some (.int .i64 t104) ∧ w36.cell? ⟨gb114, 2, none⟩ = some (.int .i64 t105) ∧ w36.cell? ⟨gb114, 3, none⟩ = some (.int .i64 t106) ∧ w36.cell? ⟨gb114, 4, none⟩ = some (.int .i64 t107) ∧ w36.cell? ⟨gb114, 5, none⟩ = some (.int .i64 t108) ∧ w36.cell? ⟨gb114, 6, none⟩ = some (.slice Ao22 t109.length co22) ∧ w36.cell? ⟨gb101, 0, none⟩ = some (.int .i64 a1_0) ∧ w36.cell? ⟨gb101, 1, none⟩ = some (.int .i64 a1_1) ∧ w36.cell? ⟨gb101, 2, none⟩ = some (.int .i64 a1_2) ∧ w36.cell? ⟨gb101, 3, none⟩ = some (.int .i64 a1_3) ∧ w36.cell? ⟨gb101, 4, none⟩ = some (.string a1_4) ∧ w36.cell? ⟨gb101, 5, none⟩ = some (.int .i64 a1_5) ∧ w36.cell? ⟨gb101, 6, none⟩ = some (.int .i64 a1_6) := hS_
            refine norm_ (a' := ?_) ?_ ?_
            rotate_left
            ·simp only [putAll, Act.put, List.setIfInBounds_toArray, List.set_cons_zero, List.set_cons_succ]
             rfl
            refine two_ (i := 7) (j := 11) (Ni := some 46) (Nj := some 12) #[true, true, true, true, true, true, true, true, false, false, false, false, false] #[true, true, true, true, true, true, true, false, false, false, false, true, false] rfl rfl rfl rfl (two_of HT_.out (by kernel_rfl)) (by decide) (by decide) (fun K hK => ?_) (fun K hK => ?_)
            ·skip
             refine goes_ Tryd.func20 (by kernel_rfl) rfl #[.agg #[.int .i64 a1_0, .int .i64 a1_1, .int .i64 a1_2, .int .i64 a1_3, .string a1_4, .int .i64 a1_5, .int .i64 a1_6]] (by rfl) rfl rfl (by (try simp only [List.map_toArray, List.map_cons, List.map_nil]); first | done | rfl | (simp only [List.length_drop, List.length_take]; rfl)) ?_
             with_reducible refine (script_Plain.calls a1_0 a1_1 a1_2 a1_3 a1_4 a1_5 a1_6 t134 t135 t136 t137 t138 t139 t140 _ A13.out).mono ?_
             rintro e w37 ⟨rfl, hb⟩
             refine ⟨_, rfl, ?_⟩
             have n0_ := Aside0.mk (Kd.R_below (by (with_reducible repeat (first | apply Kd.R_alloc | apply Kd.R_drewN | apply Kd.R_drew)); exact HO111.out) hb)
             have n1_ := Aside0.mk (Kd.R_below (by (with_reducible repeat (first | apply Kd.R_alloc | apply Kd.R_drewN | apply Kd.R_drew)); exact HO124.out) hb)
             have n2_ := Aside0.mk (Kd.R_below (by (with_reducible repeat (first | apply Kd.R_alloc | apply Kd.R_drewN | apply Kd.R_drew)); exact HO133.out) hb)
             have n3_ := Aside0.mk (blk_below (g := gb101) (o := .cells #[.int .i64 a1_0, .int .i64 a1_1, .int .i64 a1_2, .int .i64 a1_3, .string a1_4, .int .i64 a1_5, .int .i64 a1_6] 29 (0, 0)) (by (with_reducible repeat (first | refine blk_drewN ?_ _ | refine blk_drew ?_ | refine blk_alloc ?_ _)); exact BK101.out) hb)
             have n4_ := Aside0.mk (blk_below (g := gb114) (o := .cells #[.int .i64 t103, .int .i64 t104, .int .i64 t105, .int .i64 t106, .int .i64 t107, .int .i64 t108, .slice Ao22 t109.length co22] 26 (0, 0)) (by (with_reducible repeat (first | refine blk_drewN ?_ _ | refine blk_drew ?_ | refine blk_alloc ?_ _)); exact BK114.out) hb)
             have n5_ := Aside0.mk (blk_below (g := gb127) (o := .cells #[.int .i64 t103, .int .i64 t104, .int .i64 t105, .int .i64 t106, .int .i64 t107, .int .i64 t108, .slice Ao30 t122.length co30] 26 (0, 0)) (by (with_reducible repeat (first | refine blk_drewN ?_ _ | refine blk_drew ?_ | refine blk_alloc ?_ _)); exact BK127.out) hb)
             have n6_ := Aside0.mk (below_step (by repeat (first | (with_reducible first | exact HB.out | apply below_alloc | apply pw_below_drewN | apply below_drew1 | refine below_set ?_ GE101.out | refine below_set ?_ GE114.out | refine below_set ?_ GE127.out) | exact HB.out)) hb)
             clear HO111
             clear HO124
             clear HO133
             clear BK101
             clear BK114
             clear BK127
             clear HB
             have HO111 := n0_
             have HO124 := n1_
             have HO133 := n2_
             have BK101 := n3_
             have BK114 := n4_
             have BK127 := n5_
             have HB := n6_
             clear n0_ n1_ n2_ n3_ n4_ n5_ n6_
             (try clear hb)
             (try clear hb2)
             (try clear hk)
             (try clear hi)
             refine hK.out _ _ ⟨(blk_cell BK114.out 0).trans rfl, (blk_cell BK114.out 1).trans rfl, (blk_cell BK114.out 2).trans rfl, (blk_cell BK114.out 3).trans rfl, (blk_cell BK114.out 4).trans rfl, (blk_cell BK114.out 5).trans rfl, (blk_cell BK114.out 6).trans rfl, (blk_cell BK101.out 0).trans rfl, (blk_cell BK101.out 1).trans rfl, (blk_cell BK101.out 2).trans rfl, (blk_cell BK101.out 3).trans rfl, (blk_cell BK101.out 4).trans rfl, (blk_cell BK101.out 5).trans rfl, (blk_cell BK101.out 6).trans rfl⟩ (fun hHeld => ?_)
             clear hK K
             refine norm_ (a' := ?_) ?_ ?_
             rotate_left
             ·show Act.put _ (some 46) _ = _
              simp only [Act.put, List.setIfInBounds_toArray, List.set_cons_zero, List.set_cons_succ, i64_w, i32_w]
              rfl
             exact norm_ (by first | (simp only [putAll, Act.put, List.setIfInBounds_toArray, List.set_cons_zero, List.set_cons_succ]; done) | (simp only [putAll, Act.put, List.setIfInBounds_toArray, List.set_cons_zero, List.set_cons_succ]; rfl)) (hJ2_5_7 (v129, v132) _ ⟨hHeld, (by (with_reducible repeat (first | apply Kd.R_alloc | apply Kd.R_drewN | apply Kd.R_drew)); exact HO111.out), (by (with_reducible repeat (first | apply Kd.R_alloc | apply Kd.R_drewN | apply Kd.R_drew)); exact HO124.out), (by (with_reducible repeat (first | apply Kd.R_alloc | apply Kd.R_drewN | apply Kd.R_drew)); exact HO133.out), (by (with_reducible repeat (first | refine blk_drewN ?_ _ | refine blk_drew ?_ | refine blk_alloc ?_ _)); exact BK101.out), (by (with_reducible repeat (first | refine blk_drewN ?_ _ | refine blk_drew ?_ | refine blk_alloc ?_ _)); exact BK114.out), (by (with_reducible repeat (first | refine blk_drewN ?_ _ | refine blk_drew ?_ | refine blk_alloc ?_ _)); exact BK127.out), (by repeat (first | (with_reducible first | exact HB.out | apply below_alloc | apply pw_below_drewN | apply below_drew1 | refine below_set ?_ GE101.out | refine below_set ?_ GE114.out | refine below_set ?_ GE127.out) | exact HB.out))⟩)
            ·skip
             refine box_step ?hg (N := 12) ?hd (cs := #[.int .i64 0, .int .i64 0, .int .i64 0, .int .i64 0, .int .i64 0, .int .i64 0, .slice none 0 0]) (t := 26) ?hr ?_; (case hd => rfl); (case hg => rfl); (case hr => first | (go_simp; done) | (go_simp; rfl))
             intro gb147 hg w37 hbox hb
             have n0_ := Aside0.mk (Kd.R_below (by (with_reducible repeat (first | apply Kd.R_alloc | apply Kd.R_drewN | apply Kd.R_drew)); exact HO111.out) hb)
             have n1_ := Aside0.mk (Kd.R_below (by (with_reducible repeat (first | apply Kd.R_alloc | apply Kd.R_drewN | apply Kd.R_drew)); exact HO124.out) hb)
             have n2_ := Aside0.mk (Kd.R_below (by (with_reducible repeat (first | apply Kd.R_alloc | apply Kd.R_drewN | apply Kd.R_drew)); exact HO133.out) hb)
             have n3_ := Aside0.mk (blk_below (g := gb101) (o := .cells #[.int .i64 a1_0, .int .i64 a1_1, .int .i64 a1_2, .int .i64 a1_3, .string a1_4, .int .i64 a1_5, .int .i64 a1_6] 29 (0, 0)) (by (with_reducible repeat (first | refine blk_drewN ?_ _ | refine blk_drew ?_ | refine blk_alloc ?_ _)); exact BK101.out) hb)
             have n4_ := Aside0.mk (blk_below (g := gb114) (o := .cells #[.int .i64 t103, .int .i64 t104, .int .i64 t105, .int .i64 t106, .int .i64 t107, .int .i64 t108, .slice Ao22 t109.length co22] 26 (0, 0)) (by (with_reducible repeat (first | refine blk_drewN ?_ _ | refine blk_drew ?_ | refine blk_alloc ?_ _)); exact BK114.out) hb)
             have n5_ := Aside0.mk (blk_below (g := gb127) (o := .cells #[.int .i64 t103, .int .i64 t104, .int .i64 t105, .int .i64 t106, .int .i64 t107, .int .i64 t108, .slice Ao30 t122.length co30] 26 (0, 0)) (by (with_reducible repeat (first | refine blk_drewN ?_ _ | refine blk_drew ?_ | refine blk_alloc ?_ _)); exact BK127.out) hb)
             have n6_ := Aside0.mk (below_step (by repeat (first | (with_reducible first | exact HB.out | apply below_alloc | apply pw_below_drewN | apply below_drew1 | refine below_set ?_ GE101.out | refine below_set ?_ GE114.out | refine below_set ?_ GE127.out) | exact HB.out)) hb)
             have n7_ := Aside0.mk (hbox)
             have n8_ := Aside0.mk ((by rw [hg]; exact (below_size (by repeat (first | (with_reducible first | exact HB.out | apply below_alloc | apply pw_below_drewN | apply below_drew1 | refine below_set ?_ GE101.out | refine below_set ?_ GE114.out | refine below_set ?_ GE127.out) | exact HB.out))) : w.heap.size ≤ gb147))
             have n9_ := Aside0.mk ((by rw [hg]; exact (below_size (by repeat (first | (with_reducible first | exact HB.out | apply below_alloc | apply pw_below_drewN | apply below_drew1 | refine below_set ?_ GE101.out | refine below_set ?_ GE114.out | refine below_set ?_ GE127.out) | exact HB.out))) : w.heap.size ≤ gb147))
             have n10_ := Aside0.mk ((by rw [hg]; exact Nat.ne_of_lt (blk_lt (g := gb101) (o := .cells #[.int .i64 a1_0, .int .i64 a1_1, .int .i64 a1_2, .int .i64 a1_3, .string a1_4, .int .i64 a1_5, .int .i64 a1_6] 29 (0, 0)) (by (with_reducible repeat (first | refine blk_drewN ?_ _ | refine blk_drew ?_ | refine blk_alloc ?_ _)); exact BK101.out)) : gb101 ≠ gb147))
             have n11_ := Aside0.mk ((by rw [hg]; exact Nat.ne_of_gt (blk_lt (g := gb101) (o := .cells #[.int .i64 a1_0, .int .i64 a1_1, .int .i64 a1_2, .int .i64 a1_3, .string a1_4, .int .i64 a1_5, .int .i64 a1_6] 29 (0, 0)) (by (with_reducible repeat (first | refine blk_drewN ?_ _ | refine blk_drew ?_ | refine blk_alloc ?_ _)); exact BK101.out)) : gb147 ≠ gb101))
             have n12_ := Aside0.mk ((by rw [hg]; exact Nat.ne_of_lt (blk_lt (g := gb114) (o := .cells #[.int .i64 t103, .int .i64 t104, .int .i64 t105, .int .i64 t106, .int .i64 t107, .int .i64 t108, .slice Ao22 t109.length co22] 26 (0, 0)) (by (with_reducible repeat (first | refine blk_drewN ?_ _ | refine blk_drew ?_ | refine blk_alloc ?_ _)); exact BK114.out)) : gb114 ≠ gb147))
             have n13_ := Aside0.mk ((by rw [hg]; exact Nat.ne_of_gt (blk_lt (g := gb114) (o := .cells #[.int .i64 t103, .int .i64 t104, .int .i64 t105, .int .i64 t106, .int .i64 t107, .int .i64 t108, .slice Ao22 t109.length co22] 26 (0, 0)) (by (with_reducible repeat (first | refine blk_drewN ?_ _ | refine blk_drew ?_ | refine blk_alloc ?_ _)); exact BK114.out)) : gb147 ≠ gb114))
             have n14_ := Aside0.mk ((by rw [hg]; exact Nat.ne_of_lt (blk_lt (g := gb127) (o := .cells #[.int .i64 t103, .int .i64 t104, .int .i64 t105, .int .i64 t106, .int .i64 t107, .int .i64 t108, .slice Ao30 t122.length co30] 26 (0, 0)) (by (with_reducible repeat (first | refine blk_drewN ?_ _ | refine blk_drew ?_ | refine blk_alloc ?_ _)); exact BK127.out)) : gb127 ≠ gb147))
             have n15_ := Aside0.mk ((by rw [hg]; exact Nat.ne_of_gt (blk_lt (g := gb127) (o := .cells #[.int .i64 t103, .int .i64 t104, .int .i64 t105, .int .i64 t106, .int .i64 t107, .int .i64 t108, .slice Ao30 t122.length co30] 26 (0, 0)) (by (with_reducible repeat (first | refine blk_drewN ?_ _ | refine blk_drew ?_ | refine blk_alloc ?_ _)); exact BK127.out)) : gb147 ≠ gb127))
             clear HO111
             clear HO124
             clear HO133
             clear BK101
             clear BK114
             clear BK127
             clear HB
             have HO111 := n0_
             have HO124 := n1_
             have HO133 := n2_
             have BK101 := n3_
             have BK114 := n4_
             have BK127 := n5_
             have HB := n6_
             have BK147 := n7_
             have GW147 := n8_
             have GE147 := n9_
             have NB101_147 := n10_
             have NB147_101 := n11_
             have NB114_147 := n12_
             have NB147_114 := n13_
             have NB127_147 := n14_
             have NB147_127 := n15_
             clear n0_ n1_ n2_ n3_ n4_ n5_ n6_ n7_ n8_ n9_ n10_ n11_ n12_ n13_ n14_ n15_
             clear hb hbox hg
             refine hK.out _ _ ⟨(blk_cell BK114.out 0).trans rfl, (blk_cell BK114.out 1).trans rfl, (blk_cell BK114.out 2).trans rfl, (blk_cell BK114.out 3).trans rfl, (blk_cell BK114.out 4).trans rfl, (blk_cell BK114.out 5).trans rfl, (blk_cell BK114.out 6).trans rfl, (blk_cell BK101.out 0).trans rfl, (blk_cell BK101.out 1).trans rfl, (blk_cell BK101.out 2).trans rfl, (blk_cell BK101.out 3).trans rfl, (blk_cell BK101.out 4).trans rfl, (blk_cell BK101.out 5).trans rfl, (blk_cell BK101.out 6).trans rfl⟩ (fun hHeld => ?_)
             clear hK K
             refine norm_ (a' := ?_) ?_ ?_
             rotate_left
             ·show Act.put _ (some 12) _ = _
              simp only [Act.put, List.setIfInBounds_toArray, List.set_cons_zero, List.set_cons_succ, i64_w, i32_w]
              rfl
             exact norm_ (by first | (simp only [putAll, Act.put, List.setIfInBounds_toArray, List.set_cons_zero, List.set_cons_succ]; done) | (simp only [putAll, Act.put, List.setIfInBounds_toArray, List.set_cons_zero, List.set_cons_succ]; rfl)) (hJ2_5_11 (v129, v132, gb147) _ ⟨hHeld, (by (with_reducible repeat (first | apply Kd.R_alloc | apply Kd.R_drewN | apply Kd.R_drew)); exact HO111.out), (by (with_reducible repeat (first | apply Kd.R_alloc | apply Kd.R_drewN | apply Kd.R_drew)); exact HO124.out), (by (with_reducible repeat (first | apply Kd.R_alloc | apply Kd.R_drewN | apply Kd.R_drew)); exact HO133.out), (by (with_reducible repeat (first | refine blk_drewN ?_ _ | refine blk_drew ?_ | refine blk_alloc ?_ _)); exact BK101.out), (by (with_reducible repeat (first | refine blk_drewN ?_ _ | refine blk_drew ?_ | refine blk_alloc ?_ _)); exact BK114.out), (by (with_reducible repeat (first | refine blk_drewN ?_ _ | refine blk_drew ?_ | refine blk_alloc ?_ _)); exact BK127.out), (by (with_reducible repeat (first | refine blk_drewN ?_ _ | refine blk_drew ?_ | refine blk_alloc ?_ _)); exact BK147.out), GW147.out, GE147.out, NB101_147.out, NB147_101.out, NB114_147.out, NB147_114.out, NB127_147.out, NB147_127.out, (by repeat (first | (with_reducible first | exact HB.out | apply below_alloc | apply pw_below_drewN | apply below_drew1 | refine below_set ?_ GE101.out | refine below_set ?_ GE114.out | refine below_set ?_ GE127.out | refine below_set ?_ GE147.out) | exact HB.out))⟩)
          ·skip
           rintro ⟨v129, v132, gb147⟩ w37 ⟨hS_, h0_, h1_, h2_, h3_, h4_, h5_, h6_, h7_, h8_, h9_, h10_, h11_, h12_, h13_, h14_, h15_⟩
           have n0_ : Aside0 (Kd.R k29 29 w37 w.heap.size (fun k_ => some k_ ≠ (.slice Ao30 t122.length co30 : Value).ownBlock ∧ some k_ ≠ (v132 : Value).ownBlock ∧ k_ ≠ gb101) (.slice Ao22 t109.length co22) t109) := ⟨h0_⟩
           have n1_ : Aside0 (Kd.R k29 29 w37 w.heap.size (fun k_ => some k_ ≠ (.slice Ao22 t109.length co22 : Value).ownBlock ∧ some k_ ≠ (v132 : Value).ownBlock ∧ k_ ≠ gb101) (.slice Ao30 t122.length co30) t122) := ⟨h1_⟩
           have n2_ : Aside0 (Kd.R k29 29 w37 w.heap.size (fun k_ => some k_ ≠ (.slice Ao22 t109.length co22 : Value).ownBlock ∧ some k_ ≠ (.slice Ao30 t122.length co30 : Value).ownBlock ∧ k_ ≠ gb101) v132 y131) := ⟨h2_⟩
           have n3_ : Aside0 (w37.heap[gb101]? = some (.cells #[.int .i64 a1_0, .int .i64 a1_1, .int .i64 a1_2, .int .i64 a1_3, .string a1_4, .int .i64 a1_5, .int .i64 a1_6] 29 (0, 0))) := ⟨h3_⟩
           have n4_ : Aside0 (w37.heap[gb114]? = some (.cells #[.int .i64 t103, .int .i64 t104, .int .i64 t105, .int .i64 t106, .int .i64 t107, .int .i64 t108, .slice Ao22 t109.length co22] 26 (0, 0))) := ⟨h4_⟩
           have n5_ : Aside0 (w37.heap[gb127]? = some (.cells #[.int .i64 t103, .int .i64 t104, .int .i64 t105, .int .i64 t106, .int .i64 t107, .int .i64 t108, .slice Ao30 t122.length co30] 26 (0, 0))) := ⟨h5_⟩
           have n6_ : Aside0 (w37.heap[gb147]? = some (.cells #[.int .i64 0, .int .i64 0, .int .i64 0, .int .i64 0, .int .i64 0, .int .i64 0, .slice none 0 0] 26 (0, 0))) := ⟨h6_⟩
           have n7_ : Aside0 (w.heap.size ≤ gb147) := ⟨h7_⟩
           have n8_ : Aside0 (w.heap.size ≤ gb147) := ⟨h8_⟩
           have n9_ : Aside0 (gb101 ≠ gb147) := ⟨h9_⟩
           have n10_ : Aside0 (gb147 ≠ gb101) := ⟨h10_⟩
           have n11_ : Aside0 (gb114 ≠ gb147) := ⟨h11_⟩
           have n12_ : Aside0 (gb147 ≠ gb114) := ⟨h12_⟩
           have n13_ : Aside0 (gb127 ≠ gb147) := ⟨h13_⟩
           have n14_ : Aside0 (gb147 ≠ gb127) := ⟨h14_⟩
           have n15_ : Aside0 (Below w.heap.size w w37) := ⟨h15_⟩
           clear HO111
           clear HO124
           clear BK101
           clear BK114
           clear BK127
           clear HB
           clear h0_ h1_ h2_ h3_ h4_ h5_ h6_ h7_ h8_ h9_ h10_ h11_ h12_ h13_ h14_ h15_
           have HO111 := n0_
           have HO124 := n1_
           have HO133 := n2_
           have BK101 := n3_
           have BK114 := n4_
           have BK127 := n5_
           have BK147 := n6_
           have GW147 := n7_
           have GE147 := n8_
           have NB101_147 := n9_
           have NB147_101 := n10_
           have NB114_147 := n11_
           have NB147_114 := n12_
           have NB127_147 := n13_
           have NB147_127 := n14_
           have HB := n15_
           clear n0_ n1_ n2_ n3_ n4_ n5_ n6_ n7_ n8_ n9_ n10_ n11_ n12_ n13_ n14_ n15_
           have hHeld : w37.cell? ⟨gb114, 0, none⟩ = some (.int .i64 t103) ∧ w37.cell? ⟨gb114, 1, none⟩ = some (.int .i64 t104) ∧ w37.cell? ⟨gb114, 2, none⟩ = some (.int .i64 t105) ∧ w37.cell? ⟨gb114, 3, none⟩ = some (.int .i64 t106) ∧ w37.cell? ⟨gb114, 4, none⟩ = some (.int .i64 t107) ∧ w37.cell? ⟨gb114, 5, none⟩ = some (.int .i64 t108) ∧ w37.cell? ⟨gb114, 6, none⟩ = some (.slice Ao22 t109.length co22) ∧ w37.cell? ⟨gb101, 0, none⟩ = some (.int .i64 a1_0) ∧ w37.cell? ⟨gb101, 1, none⟩ = some (.int .i64 a1_1) ∧ w37.cell? ⟨gb101, 2, none⟩ = some (.int .i64 a1_2) ∧ w37.cell? ⟨gb101, 3, none⟩ = some (.int .i64 a1_3) ∧ w37.cell? ⟨gb101, 4, none⟩ = some (.string a1_4) ∧ w37.cell? ⟨gb101, 5, none⟩ = some (.int .i64 a1_5) ∧ w37.cell? ⟨gb101, 6, none⟩ = some (.int .i64 a1_6) := hS_
           refine norm_ (a' := ?_) ?_ ?_
           rotate_left
           ·simp only [putAll, Act.put, List.setIfInBounds_toArray, List.set_cons_zero, List.set_cons_succ]
            rfl
           refine one_ (i := 7) (N := some 46) #[true, true, true, true, true, true, true, true, false, false, false, true, false] rfl rfl (one_of HT_.out (by kernel_rfl)) (by decide) (fun K hK => ?_)
           refine goes_ Tryd.func20 (by kernel_rfl) rfl #[.agg #[.int .i64 a1_0, .int .i64 a1_1, .int .i64 a1_2, .int .i64 a1_3, .string a1_4, .int .i64 a1_5, .int .i64 a1_6]] (by rfl) rfl rfl (by (try simp only [List.map_toArray, List.map_cons, List.map_nil]); first | done | rfl | (simp only [List.length_drop, List.length_take]; rfl)) ?_
           with_reducible refine (script_Plain.calls a1_0 a1_1 a1_2 a1_3 a1_4 a1_5 a1_6 t134 t135 t136 t137 t138 t139 t140 _ A13.out).mono ?_
           rintro e w38 ⟨rfl, hb⟩
           refine ⟨_, rfl, ?_⟩
           have n0_ := Aside0.mk (Kd.R_below (by (with_reducible repeat (first | apply Kd.R_alloc | apply Kd.R_drewN | apply Kd.R_drew)); exact HO111.out) hb)
           have n1_ := Aside0.mk (Kd.R_below (by (with_reducible repeat (first | apply Kd.R_alloc | apply Kd.R_drewN | apply Kd.R_drew)); exact HO124.out) hb)
           have n2_ := Aside0.mk (Kd.R_below (by (with_reducible repeat (first | apply Kd.R_alloc | apply Kd.R_drewN | apply Kd.R_drew)); exact HO133.out) hb)
           have n3_ := Aside0.mk (blk_below (g := gb101) (o := .cells #[.int .i64 a1_0, .int .i64 a1_1, .int .i64 a1_2, .int .i64 a1_3, .string a1_4, .int .i64 a1_5, .int .i64 a1_6] 29 (0, 0)) (by (with_reducible repeat (first | refine blk_drewN ?_ _ | refine blk_drew ?_ | refine blk_alloc ?_ _)); exact BK101.out) hb)
           have n4_ := Aside0.mk (blk_below (g := gb114) (o := .cells #[.int .i64 t103, .int .i64 t104, .int .i64 t105, .int .i64 t106, .int .i64 t107, .int .i64 t108, .slice Ao22 t109.length co22] 26 (0, 0)) (by (with_reducible repeat (first | refine blk_drewN ?_ _ | refine blk_drew ?_ | refine blk_alloc ?_ _)); exact BK114.out) hb)
           have n5_ := Aside0.mk (blk_below (g := gb127) (o := .cells #[.int .i64 t103, .int .i64 t104, .int .i64 t105, .int .i64 t106, .int .i64 t107, .int .i64 t108, .slice Ao30 t122.length co30] 26 (0, 0)) (by (with_reducible repeat (first | refine blk_drewN ?_ _ | refine blk_drew ?_ | refine blk_alloc ?_ _)); exact BK127.out) hb)
           have n6_ := Aside0.mk (blk_below (g := gb147) (o := .cells #[.int .i64 0, .int .i64 0, .int .i64 0, .int .i64 0, .int .i64 0, .int .i64 0, .slice none 0 0] 26 (0, 0)) (by (with_reducible repeat (first | refine blk_drewN ?_ _ | refine blk_drew ?_ | refine blk_alloc ?_ _)); exact BK147.out) hb)
           have n7_ := Aside0.mk (below_step (by repeat (first | (with_reducible first | exact HB.out | apply below_alloc | apply pw_below_drewN | apply below_drew1 | refine below_set ?_ GE101.out | refine below_set ?_ GE114.out | refine below_set ?_ GE127.out | refine below_set ?_ GE147.out) | exact HB.out)) hb)
           clear HO111
           clear HO124
           clear HO133
           clear BK101
           clear BK114
           clear BK127
           clear BK147
           clear HB
           have HO111 := n0_
           have HO124 := n1_
           have HO133 := n2_
           have BK101 := n3_
           have BK114 := n4_
           have BK127 := n5_
           have BK147 := n6_
           have HB := n7_
           clear n0_ n1_ n2_ n3_ n4_ n5_ n6_ n7_
           (try clear hb)
           (try clear hb2)
           (try clear hk)
           (try clear hi)
           refine hK.out _ _ ⟨(blk_cell BK114.out 0).trans rfl, (blk_cell BK114.out 1).trans rfl, (blk_cell BK114.out 2).trans rfl, (blk_cell BK114.out 3).trans rfl, (blk_cell BK114.out 4).trans rfl, (blk_cell BK114.out 5).trans rfl, (blk_cell BK114.out 6).trans rfl, (blk_cell BK101.out 0).trans rfl, (blk_cell BK101.out 1).trans rfl, (blk_cell BK101.out 2).trans rfl, (blk_cell BK101.out 3).trans rfl, (blk_cell BK101.out 4).trans rfl, (blk_cell BK101.out 5).trans rfl, (blk_cell BK101.out 6).trans rfl⟩ (fun hHeld => ?_)
           clear hK K
           refine norm_ (a' := ?_) ?_ ?_
           rotate_left
           ·show Act.put _ (some 46) _ = _
            simp only [Act.put, List.setIfInBounds_toArray, List.set_cons_zero, List.set_cons_succ, i64_w, i32_w]
            rfl
           exact norm_ (by first | (simp only [putAll, Act.put, List.setIfInBounds_toArray, List.set_cons_zero, List.set_cons_succ]; done) | (simp only [putAll, Act.put, List.setIfInBounds_toArray, List.set_cons_zero, List.set_cons_succ]; rfl)) (hJ2_5_7_11 (v129, v132, gb147) _ ⟨hHeld, (by (with_reducible repeat (first | apply Kd.R_alloc | apply Kd.R_drewN | apply Kd.R_drew)); exact HO111.out), (by (with_reducible repeat (first | apply Kd.R_alloc | apply Kd.R_drewN | apply Kd.R_drew)); exact HO124.out), (by (with_reducible repeat (first | apply Kd.R_alloc | apply Kd.R_drewN | apply Kd.R_drew)); exact HO133.out), (by (with_reducible repeat (first | refine blk_drewN ?_ _ | refine blk_drew ?_ | refine blk_alloc ?_ _)); exact BK101.out), (by (with_reducible repeat (first | refine blk_drewN ?_ _ | refine blk_drew ?_ | refine blk_alloc ?_ _)); exact BK114.out), (by (with_reducible repeat (first | refine blk_drewN ?_ _ | refine blk_drew ?_ | refine blk_alloc ?_ _)); exact BK127.out), (by (with_reducible repeat (first | refine blk_drewN ?_ _ | refine blk_drew ?_ | refine blk_alloc ?_ _)); exact BK147.out), GW147.out, GE147.out, NB101_147.out, NB147_101.out, NB114_147.out, NB147_114.out, NB127_147.out, NB147_127.out, (by repeat (first | (with_reducible first | exact HB.out | apply below_alloc | apply pw_below_drewN | apply below_drew1 | refine below_set ?_ GE101.out | refine below_set ?_ GE114.out | refine below_set ?_ GE127.out | refine below_set ?_ GE147.out) | exact HB.out))⟩)
         ·skip
          rintro ⟨v129, v132⟩ w37 ⟨hS_, h0_, h1_, h2_, h3_, h4_, h5_, h6_⟩
          have n0_ : Aside0 (Kd.R k29 29 w37 w.heap.size (fun k_ => some k_ ≠ (.slice Ao30 t122.length co30 : Value).ownBlock ∧ some k_ ≠ (v132 : Value).ownBlock ∧ k_ ≠ gb101) (.slice Ao22 t109.length co22) t109) := ⟨h0_⟩
          have n1_ : Aside0 (Kd.R k29 29 w37 w.heap.size (fun k_ => some k_ ≠ (.slice Ao22 t109.length co22 : Value).ownBlock ∧ some k_ ≠ (v132 : Value).ownBlock ∧ k_ ≠ gb101) (.slice Ao30 t122.length co30) t122) := ⟨h1_⟩
          have n2_ : Aside0 (Kd.R k29 29 w37 w.heap.size (fun k_ => some k_ ≠ (.slice Ao22 t109.length co22 : Value).ownBlock ∧ some k_ ≠ (.slice Ao30 t122.length co30 : Value).ownBlock ∧ k_ ≠ gb101) v132 y131) := ⟨h2_⟩
          have n3_ : Aside0 (w37.heap[gb101]? = some (.cells #[.int .i64 a1_0, .int .i64 a1_1, .int .i64 a1_2, .int .i64 a1_3, .string a1_4, .int .i64 a1_5, .int .i64 a1_6] 29 (0, 0))) := ⟨h3_⟩
          have n4_ : Aside0 (w37.heap[gb114]? = some (.cells #[.int .i64 t103, .int .i64 t104, .int .i64 t105, .int .i64 t106, .int .i64 t107, .int .i64 t108, .slice Ao22 t109.length co22] 26 (0, 0))) := ⟨h4_⟩
          have n5_ : Aside0 (w37.heap[gb127]? = some (.cells #[.int .i64 t103, .int .i64 t104, .int .i64 t105, .int .i64 t106, .int .i64 t107, .int .i64 t108, .slice Ao30 t122.length co30] 26 (0, 0))) := ⟨h5_⟩
          have n6_ : Aside0 (Below w.heap.size w w37) := ⟨h6_⟩
          clear HO111
          clear HO124
          clear BK101
          clear BK114
          clear BK127
          clear HB
          clear h0_ h1_ h2_ h3_ h4_ h5_ h6_
          have HO111 := n0_
          have HO124 := n1_
          have HO133 := n2_
          have BK101 := n3_
          have BK114 := n4_
          have BK127 := n5_
          have HB := n6_
          clear n0_ n1_ n2_ n3_ n4_ n5_ n6_
          have hHeld : w37.cell? ⟨gb114, 0, none⟩ = some (.int .i64 t103) ∧ w37.cell? ⟨gb114, 1, none⟩ = some (.int .i64 t104) ∧ w37.cell? ⟨gb114, 2, none⟩ = some (.int .i64 t105) ∧ w37.cell? ⟨gb114, 3, none⟩ = some (.int .i64 t106) ∧ w37.cell? ⟨gb114, 4, none⟩ = some (.int .i64 t107) ∧ w37.cell? ⟨gb114, 5, none⟩ = some (.int .i64 t108) ∧ w37.cell? ⟨gb114, 6, none⟩ = some (.slice Ao22 t109.length co22) ∧ w37.cell? ⟨gb101, 0, none⟩ = some (.int .i64 a1_0) ∧ w37.cell? ⟨gb101, 1, none⟩ = some (.int .i64 a1_1) ∧ w37.cell? ⟨gb101, 2, none⟩ = some (.int .i64 a1_2) ∧ w37.cell? ⟨gb101, 3, none⟩ = some (.int .i64 a1_3) ∧ w37.cell? ⟨gb101, 4, none⟩ = some (.string a1_4) ∧ w37.cell? ⟨gb101, 5, none⟩ = some (.int .i64 a1_5) ∧ w37.cell? ⟨gb101, 6, none⟩ = some (.int .i64 a1_6) := hS_
          refine norm_ (a' := ?_) ?_ ?_
          rotate_left
          ·simp only [putAll, Act.put, List.setIfInBounds_toArray, List.set_cons_zero, List.set_cons_succ]
           rfl
          refine two_ (i := 8) (j := 11) (Ni := some 47) (Nj := some 12) #[true, true, true, true, true, true, true, true, true, false, false, false, false] #[true, true, true, true, true, true, true, true, false, false, false, true, false] rfl rfl rfl rfl (two_of HT_.out (by kernel_rfl)) (by decide) (by decide) (fun K hK => ?_) (fun K hK => ?_)
          ·skip
           refine Kd.R_lit_step k29 _ 29 ?hg (N := 47) ?hd (xs := ([(⟨t134, t135, t136, t137, t138, t139, t140⟩ : S29)] : List (S29))) (inner := [.int .i64 t134, .int .i64 t135, .int .i64 t136, .int .i64 t137, .string t138, .int .i64 t139, .int .i64 t140]) (ok := fun _ => True) (okp := fun _ => True) ?hr ?hp (fun _ hk => hk) trivial (Below.refl _ _) (Nat.le_refl _) (by simp) ?_; (case hd => rfl); (case hg => rfl); (case hr => first | (go_simp; done) | (go_simp; rfl)); (case hp => exact (Reps.c7 (show Kd.M k29 _ _ _ (⟨t134, t135, t136, t137, t138, t139, t140⟩ : S29) [.int .i64 t134, .int .i64 t135, .int .i64 t136, .int .i64 t137, .string t138, .int .i64 t139, .int .i64 t140] from (k29_mkM _ _ _ (⟨t134, t135, t136, t137, t138, t139, t140⟩ : S29) )) (Reps.none _ _)))
           intro v142 w38 ho39 hb hg_ hnew_
           clear hg_ hnew_
           (first | rw [← Ny141.out] at ho39 | (simp only [Int.reduceToNat] at ho39; rw [← Ny141.out] at ho39))
           have n0_ := Aside0.mk (Kd.R_elder' (by (with_reducible repeat (first | apply Kd.R_alloc | apply Kd.R_drewN | apply Kd.R_drew)); exact HO111.out) (Kd.R_base ho39) hb)
           have n1_ := Aside0.mk (Kd.R_elder' (by (with_reducible repeat (first | apply Kd.R_alloc | apply Kd.R_drewN | apply Kd.R_drew)); exact HO124.out) (Kd.R_base ho39) hb)
           have n2_ := Aside0.mk (Kd.R_elder' (by (with_reducible repeat (first | apply Kd.R_alloc | apply Kd.R_drewN | apply Kd.R_drew)); exact HO133.out) (Kd.R_base ho39) hb)
           have n3_ := Aside0.mk (Kd.R_lower (Kd.R_newB (Kd.R_new' (Kd.R_new' (Kd.R_new' ho39 (Kd.R_lt (by (with_reducible repeat (first | apply Kd.R_alloc | apply Kd.R_drewN | apply Kd.R_drew)); exact HO111.out))) (Kd.R_lt (by (with_reducible repeat (first | apply Kd.R_alloc | apply Kd.R_drewN | apply Kd.R_drew)); exact HO124.out))) (Kd.R_lt (by (with_reducible repeat (first | apply Kd.R_alloc | apply Kd.R_drewN | apply Kd.R_drew)); exact HO133.out))) (g := gb101) (o := .cells #[.int .i64 a1_0, .int .i64 a1_1, .int .i64 a1_2, .int .i64 a1_3, .string a1_4, .int .i64 a1_5, .int .i64 a1_6] 29 (0, 0)) (by (with_reducible repeat (first | refine blk_drewN ?_ _ | refine blk_drew ?_ | refine blk_alloc ?_ _)); exact BK101.out)) (below_size (by repeat (first | (with_reducible first | exact HB.out | apply below_alloc | apply pw_below_drewN | apply below_drew1 | refine below_set ?_ GE101.out | refine below_set ?_ GE114.out | refine below_set ?_ GE127.out) | exact HB.out))))
           have n4_ := Aside0.mk (blk_below (g := gb101) (o := .cells #[.int .i64 a1_0, .int .i64 a1_1, .int .i64 a1_2, .int .i64 a1_3, .string a1_4, .int .i64 a1_5, .int .i64 a1_6] 29 (0, 0)) (by (with_reducible repeat (first | refine blk_drewN ?_ _ | refine blk_drew ?_ | refine blk_alloc ?_ _)); exact BK101.out) hb)
           have n5_ := Aside0.mk (blk_below (g := gb114) (o := .cells #[.int .i64 t103, .int .i64 t104, .int .i64 t105, .int .i64 t106, .int .i64 t107, .int .i64 t108, .slice Ao22 t109.length co22] 26 (0, 0)) (by (with_reducible repeat (first | refine blk_drewN ?_ _ | refine blk_drew ?_ | refine blk_alloc ?_ _)); exact BK114.out) hb)
           have n6_ := Aside0.mk (blk_below (g := gb127) (o := .cells #[.int .i64 t103, .int .i64 t104, .int .i64 t105, .int .i64 t106, .int .i64 t107, .int .i64 t108, .slice Ao30 t122.length co30] 26 (0, 0)) (by (with_reducible repeat (first | refine blk_drewN ?_ _ | refine blk_drew ?_ | refine blk_alloc ?_ _)); exact BK127.out) hb)
           have n7_ := Aside0.mk (below_step (by repeat (first | (with_reducible first | exact HB.out | apply below_alloc | apply pw_below_drewN | apply below_drew1 | refine below_set ?_ GE101.out | refine below_set ?_ GE114.out | refine below_set ?_ GE127.out) | exact HB.out)) hb)
           clear HO111
           clear HO124
           clear HO133
           clear BK101
           clear BK114
           clear BK127
           clear HB
           have HO111 := n0_
           have HO124 := n1_
           have HO133 := n2_
           have HO143 := n3_
           have BK101 := n4_
           have BK114 := n5_
           have BK127 := n6_
           have HB := n7_
           clear n0_ n1_ n2_ n3_ n4_ n5_ n6_ n7_
           clear hb ho39
           refine hK.out _ _ ⟨(blk_cell BK114.out 0).trans rfl, (blk_cell BK114.out 1).trans rfl, (blk_cell BK114.out 2).trans rfl, (blk_cell BK114.out 3).trans rfl, (blk_cell BK114.out 4).trans rfl, (blk_cell BK114.out 5).trans rfl, (blk_cell BK114.out 6).trans rfl, (blk_cell BK101.out 0).trans rfl, (blk_cell BK101.out 1).trans rfl, (blk_cell BK101.out 2).trans rfl, (blk_cell BK101.out 3).trans rfl, (blk_cell BK101.out 4).trans rfl, (blk_cell BK101.out 5).trans rfl, (blk_cell BK101.out 6).trans rfl⟩ (fun hHeld => ?_)
           clear hK K
           refine norm_ (a' := ?_) ?_ ?_
           rotate_left
           ·show Act.put _ (some 47) _ = _
            simp only [Act.put, List.setIfInBounds_toArray, List.set_cons_zero, List.set_cons_succ, i64_w, i32_w]
            rfl
           exact norm_ (by first | (simp only [putAll, Act.put, List.setIfInBounds_toArray, List.set_cons_zero, List.set_cons_succ]; done) | (simp only [putAll, Act.put, List.setIfInBounds_toArray, List.set_cons_zero, List.set_cons_succ]; rfl)) (hJ2_5_7_8 (v129, v132, v142) _ ⟨hHeld, (by (with_reducible repeat (first | apply Kd.R_alloc | apply Kd.R_drewN | apply Kd.R_drew)); exact Kd.R_mono HO111.out (fun _ hk => ⟨hk.1.1, ⟨hk.1.2.1, ⟨hk.2, hk.1.2.2⟩⟩⟩)), (by (with_reducible repeat (first | apply Kd.R_alloc | apply Kd.R_drewN | apply Kd.R_drew)); exact Kd.R_mono HO124.out (fun _ hk => ⟨hk.1.1, ⟨hk.1.2.1, ⟨hk.2, hk.1.2.2⟩⟩⟩)), (by (with_reducible repeat (first | apply Kd.R_alloc | apply Kd.R_drewN | apply Kd.R_drew)); exact Kd.R_mono HO133.out (fun _ hk => ⟨hk.1.1, ⟨hk.1.2.1, ⟨hk.2, hk.1.2.2⟩⟩⟩)), (by (with_reducible repeat (first | apply Kd.R_alloc | apply Kd.R_drewN | apply Kd.R_drew)); exact Kd.R_mono HO143.out (fun _ hk => ⟨hk.1.1.1.2, ⟨hk.1.1.2, ⟨hk.1.2, hk.2⟩⟩⟩)), (by (with_reducible repeat (first | refine blk_drewN ?_ _ | refine blk_drew ?_ | refine blk_alloc ?_ _)); exact BK101.out), (by (with_reducible repeat (first | refine blk_drewN ?_ _ | refine blk_drew ?_ | refine blk_alloc ?_ _)); exact BK114.out), (by (with_reducible repeat (first | refine blk_drewN ?_ _ | refine blk_drew ?_ | refine blk_alloc ?_ _)); exact BK127.out), (by repeat (first | (with_reducible first | exact HB.out | apply below_alloc | apply pw_below_drewN | apply below_drew1 | refine below_set ?_ GE101.out | refine below_set ?_ GE114.out | refine below_set ?_ GE127.out) | exact HB.out))⟩)
          ·skip
           refine box_step ?hg (N := 12) ?hd (cs := #[.int .i64 0, .int .i64 0, .int .i64 0, .int .i64 0, .int .i64 0, .int .i64 0, .slice none 0 0]) (t := 26) ?hr ?_; (case hd => rfl); (case hg => rfl); (case hr => first | (go_simp; done) | (go_simp; rfl))
           intro gb147 hg w38 hbox hb
           have n0_ := Aside0.mk (Kd.R_below (by (with_reducible repeat (first | apply Kd.R_alloc | apply Kd.R_drewN | apply Kd.R_drew)); exact HO111.out) hb)
           have n1_ := Aside0.mk (Kd.R_below (by (with_reducible repeat (first | apply Kd.R_alloc | apply Kd.R_drewN | apply Kd.R_drew)); exact HO124.out) hb)
           have n2_ := Aside0.mk (Kd.R_below (by (with_reducible repeat (first | apply Kd.R_alloc | apply Kd.R_drewN | apply Kd.R_drew)); exact HO133.out) hb)
           have n3_ := Aside0.mk (blk_below (g := gb101) (o := .cells #[.int .i64 a1_0, .int .i64 a1_1, .int .i64 a1_2, .int .i64 a1_3, .string a1_4, .int .i64 a1_5, .int .i64 a1_6] 29 (0, 0)) (by (with_reducible repeat (first | refine blk_drewN ?_ _ | refine blk_drew ?_ | refine blk_alloc ?_ _)); exact BK101.out) hb)
           have n4_ := Aside0.mk (blk_below (g := gb114) (o := .cells #[.int .i64 t103, .int .i64 t104, .int .i64 t105, .int .i64 t106, .int .i64 t107, .int .i64 t108, .slice Ao22 t109.length co22] 26 (0, 0)) (by (with_reducible repeat (first | refine blk_drewN ?_ _ | refine blk_drew ?_ | refine blk_alloc ?_ _)); exact BK114.out) hb)
           have n5_ := Aside0.mk (blk_below (g := gb127) (o := .cells #[.int .i64 t103, .int .i64 t104, .int .i64 t105, .int .i64 t106, .int .i64 t107, .int .i64 t108, .slice Ao30 t122.length co30] 26 (0, 0)) (by (with_reducible repeat (first | refine blk_drewN ?_ _ | refine blk_drew ?_ | refine blk_alloc ?_ _)); exact BK127.out) hb)
           have n6_ := Aside0.mk (below_step (by repeat (first | (with_reducible first | exact HB.out | apply below_alloc | apply pw_below_drewN | apply below_drew1 | refine below_set ?_ GE101.out | refine below_set ?_ GE114.out | refine below_set ?_ GE127.out) | exact HB.out)) hb)
           have n7_ := Aside0.mk (hbox)
           have n8_ := Aside0.mk ((by rw [hg]; exact (below_size (by repeat (first | (with_reducible first | exact HB.out | apply below_alloc | apply pw_below_drewN | apply below_drew1 | refine below_set ?_ GE101.out | refine below_set ?_ GE114.out | refine below_set ?_ GE127.out) | exact HB.out))) : w.heap.size ≤ gb147))
           have n9_ := Aside0.mk ((by rw [hg]; exact (below_size (by repeat (first | (with_reducible first | exact HB.out | apply below_alloc | apply pw_below_drewN | apply below_drew1 | refine below_set ?_ GE101.out | refine below_set ?_ GE114.out | refine below_set ?_ GE127.out) | exact HB.out))) : w.heap.size ≤ gb147))
           have n10_ := Aside0.mk ((by rw [hg]; exact Nat.ne_of_lt (blk_lt (g := gb101) (o := .cells #[.int .i64 a1_0, .int .i64 a1_1, .int .i64 a1_2, .int .i64 a1_3, .string a1_4, .int .i64 a1_5, .int .i64 a1_6] 29 (0, 0)) (by (with_reducible repeat (first | refine blk_drewN ?_ _ | refine blk_drew ?_ | refine blk_alloc ?_ _)); exact BK101.out)) : gb101 ≠ gb147))
           have n11_ := Aside0.mk ((by rw [hg]; exact Nat.ne_of_gt (blk_lt (g := gb101) (o := .cells #[.int .i64 a1_0, .int .i64 a1_1, .int .i64 a1_2, .int .i64 a1_3, .string a1_4, .int .i64 a1_5, .int .i64 a1_6] 29 (0, 0)) (by (with_reducible repeat (first | refine blk_drewN ?_ _ | refine blk_drew ?_ | refine blk_alloc ?_ _)); exact BK101.out)) : gb147 ≠ gb101))
           have n12_ := Aside0.mk ((by rw [hg]; exact Nat.ne_of_lt (blk_lt (g := gb114) (o := .cells #[.int .i64 t103, .int .i64 t104, .int .i64 t105, .int .i64 t106, .int .i64 t107, .int .i64 t108, .slice Ao22 t109.length co22] 26 (0, 0)) (by (with_reducible repeat (first | refine blk_drewN ?_ _ | refine blk_drew ?_ | refine blk_alloc ?_ _)); exact BK114.out)) : gb114 ≠ gb147))
           have n13_ := Aside0.mk ((by rw [hg]; exact Nat.ne_of_gt (blk_lt (g := gb114) (o := .cells #[.int .i64 t103, .int .i64 t104, .int .i64 t105, .int .i64 t106, .int .i64 t107, .int .i64 t108, .slice Ao22 t109.length co22] 26 (0, 0)) (by (with_reducible repeat (first | refine blk_drewN ?_ _ | refine blk_drew ?_ | refine blk_alloc ?_ _)); exact BK114.out)) : gb147 ≠ gb114))
           have n14_ := Aside0.mk ((by rw [hg]; exact Nat.ne_of_lt (blk_lt (g := gb127) (o := .cells #[.int .i64 t103, .int .i64 t104, .int .i64 t105, .int .i64 t106, .int .i64 t107, .int .i64 t108, .slice Ao30 t122.length co30] 26 (0, 0)) (by (with_reducible repeat (first | refine blk_drewN ?_ _ | refine blk_drew ?_ | refine blk_alloc ?_ _)); exact BK127.out)) : gb127 ≠ gb147))
           have n15_ := Aside0.mk ((by rw [hg]; exact Nat.ne_of_gt (blk_lt (g := gb127) (o := .cells #[.int .i64 t103, .int .i64 t104, .int .i64 t105, .int .i64 t106, .int .i64 t107, .int .i64 t108, .slice Ao30 t122.length co30] 26 (0, 0)) (by (with_reducible repeat (first | refine blk_drewN ?_ _ | refine blk_drew ?_ | refine blk_alloc ?_ _)); exact BK127.out)) : gb147 ≠ gb127))
           clear HO111
           clear HO124
           clear HO133
           clear BK101
           clear BK114
           clear BK127
           clear HB
           have HO111 := n0_
           have HO124 := n1_
           have HO133 := n2_
           have BK101 := n3_
           have BK114 := n4_
           have BK127 := n5_
           have HB := n6_
           have BK147 := n7_
           have GW147 := n8_
           have GE147 := n9_
           have NB101_147 := n10_
           have NB147_101 := n11_
           have NB114_147 := n12_
           have NB147_114 := n13_
           have NB127_147 := n14_
           have NB147_127 := n15_
           clear n0_ n1_ n2_ n3_ n4_ n5_ n6_ n7_ n8_ n9_ n10_ n11_ n12_ n13_ n14_ n15_
           clear hb hbox hg
           refine hK.out _ _ ⟨(blk_cell BK114.out 0).trans rfl, (blk_cell BK114.out 1).trans rfl, (blk_cell BK114.out 2).trans rfl, (blk_cell BK114.out 3).trans rfl, (blk_cell BK114.out 4).trans rfl, (blk_cell BK114.out 5).trans rfl, (blk_cell BK114.out 6).trans rfl, (blk_cell BK101.out 0).trans rfl, (blk_cell BK101.out 1).trans rfl, (blk_cell BK101.out 2).trans rfl, (blk_cell BK101.out 3).trans rfl, (blk_cell BK101.out 4).trans rfl, (blk_cell BK101.out 5).trans rfl, (blk_cell BK101.out 6).trans rfl⟩ (fun hHeld => ?_)
           clear hK K
           refine norm_ (a' := ?_) ?_ ?_
           rotate_left
           ·show Act.put _ (some 12) _ = _
            simp only [Act.put, List.setIfInBounds_toArray, List.set_cons_zero, List.set_cons_succ, i64_w, i32_w]
            rfl
           exact norm_ (by first | (simp only [putAll, Act.put, List.setIfInBounds_toArray, List.set_cons_zero, List.set_cons_succ]; done) | (simp only [putAll, Act.put, List.setIfInBounds_toArray, List.set_cons_zero, List.set_cons_succ]; rfl)) (hJ2_5_7_11 (v129, v132, gb147) _ ⟨hHeld, (by (with_reducible repeat (first | apply Kd.R_alloc | apply Kd.R_drewN | apply Kd.R_drew)); exact HO111.out), (by (with_reducible repeat (first | apply Kd.R_alloc | apply Kd.R_drewN | apply Kd.R_drew)); exact HO124.out), (by (with_reducible repeat (first | apply Kd.R_alloc | apply Kd.R_drewN | apply Kd.R_drew)); exact HO133.out), (by (with_reducible repeat (first | refine blk_drewN ?_ _ | refine blk_drew ?_ | refine blk_alloc ?_ _)); exact BK101.out), (by (with_reducible repeat (first | refine blk_drewN ?_ _ | refine blk_drew ?_ | refine blk_alloc ?_ _)); exact BK114.out), (by (with_reducible repeat (first | refine blk_drewN ?_ _ | refine blk_drew ?_ | refine blk_alloc ?_ _)); exact BK127.out), (by (with_reducible repeat (first | refine blk_drewN ?_ _ | refine blk_drew ?_ | refine blk_alloc ?_ _)); exact BK147.out), GW147.out, GE147.out, NB101_147.out, NB147_101.out, NB114_147.out, NB147_114.out, NB127_147.out, NB147_127.out, (by repeat (first | (with_reducible first | exact HB.out | apply below_alloc | apply pw_below_drewN | apply below_drew1 | refine below_set ?_ GE101.out | refine below_set ?_ GE114.out | refine below_set ?_ GE127.out | refine below_set ?_ GE147.out) | exact HB.out))⟩)
        ·skip
         rintro ⟨v129, v132, gb147⟩ w38 ⟨hS_, h0_, h1_, h2_, h3_, h4_, h5_, h6_, h7_, h8_, h9_, h10_, h11_, h12_, h13_, h14_, h15_⟩
         have n0_ : Aside0 (Kd.R k29 29 w38 w.heap.size (fun k_ => some k_ ≠ (.slice Ao30 t122.length co30 : Value).ownBlock ∧ some k_ ≠ (v132 : Value).ownBlock ∧ k_ ≠ gb101) (.slice Ao22 t109.length co22) t109) := ⟨h0_⟩
         have n1_ : Aside0 (Kd.R k29 29 w38 w.heap.size (fun k_ => some k_ ≠ (.slice Ao22 t109.length co22 : Value).ownBlock ∧ some k_ ≠ (v132 : Value).ownBlock ∧ k_ ≠ gb101) (.slice Ao30 t122.length co30) t122) := ⟨h1_⟩
         have n2_ : Aside0 (Kd.R k29 29 w38 w.heap.size (fun k_ => some k_ ≠ (.slice Ao22 t109.length co22 : Value).ownBlock ∧ some k_ ≠ (.slice Ao30 t122.length co30 : Value).ownBlock ∧ k_ ≠ gb101) v132 y131) := ⟨h2_⟩
         have n3_ : Aside0 (w38.heap[gb101]? = some (.cells #[.int .i64 a1_0, .int .i64 a1_1, .int .i64 a1_2, .int .i64 a1_3, .string a1_4, .int .i64 a1_5, .int .i64 a1_6] 29 (0, 0))) := ⟨h3_⟩
         have n4_ : Aside0 (w38.heap[gb114]? = some (.cells #[.int .i64 t103, .int .i64 t104, .int .i64 t105, .int .i64 t106, .int .i64 t107, .int .i64 t108, .slice Ao22 t109.length co22] 26 (0, 0))) := ⟨h4_⟩
         have n5_ : Aside0 (w38.heap[gb127]? = some (.cells #[.int .i64 t103, .int .i64 t104, .int .i64 t105, .int .i64 t106, .int .i64 t107, .int .i64 t108, .slice Ao30 t122.length co30] 26 (0, 0))) := ⟨h5_⟩
         have n6_ : Aside0 (w38.heap[gb147]? = some (.cells #[.int .i64 0, .int .i64 0, .int .i64 0, .int .i64 0, .int .i64 0, .int .i64 0, .slice none 0 0] 26 (0, 0))) := ⟨h6_⟩
         have n7_ : Aside0 (w.heap.size ≤ gb147) := ⟨h7_⟩
         have n8_ : Aside0 (w.heap.size ≤ gb147) := ⟨h8_⟩
         have n9_ : Aside0 (gb101 ≠ gb147) := ⟨h9_⟩
         have n10_ : Aside0 (gb147 ≠ gb101) := ⟨h10_⟩
         have n11_ : Aside0 (gb114 ≠ gb147) := ⟨h11_⟩
         have n12_ : Aside0 (gb147 ≠ gb114) := ⟨h12_⟩
         have n13_ : Aside0 (gb127 ≠ gb147) := ⟨h13_⟩
         have n14_ : Aside0 (gb147 ≠ gb127) := ⟨h14_⟩
         have n15_ : Aside0 (Below w.heap.size w w38) := ⟨h15_⟩
         clear HO111
         clear HO124
         clear BK101
         clear BK114
         clear BK127
         clear HB
         clear h0_ h1_ h2_ h3_ h4_ h5_ h6_ h7_ h8_ h9_ h10_ h11_ h12_ h13_ h14_ h15_
         have HO111 := n0_
         have HO124 := n1_
         have HO133 := n2_
         have BK101 := n3_
         have BK114 := n4_
         have BK127 := n5_
         have BK147 := n6_
         have GW147 := n7_
         have GE147 := n8_
         have NB101_147 := n9_
         have NB147_101 := n10_
         have NB114_147 := n11_
         have NB147_114 := n12_
         have NB127_147 := n13_
         have NB147_127 := n14_
         have HB := n15_
         clear n0_ n1_ n2_ n3_ n4_ n5_ n6_ n7_ n8_ n9_ n10_ n11_ n12_ n13_ n14_ n15_
         have hHeld : w38.cell? ⟨gb114, 0, none⟩ = some (.int .i64 t103) ∧ w38.cell? ⟨gb114, 1, none⟩ = some (.int .i64 t104) ∧ w38.cell? ⟨gb114, 2, none⟩ = some (.int .i64 t105) ∧ w38.cell? ⟨gb114, 3, none⟩ = some (.int .i64 t106) ∧ w38.cell? ⟨gb114, 4, none⟩ = some (.int .i64 t107) ∧ w38.cell? ⟨gb114, 5, none⟩ = some (.int .i64 t108) ∧ w38.cell? ⟨gb114, 6, none⟩ = some (.slice Ao22 t109.length co22) ∧ w38.cell? ⟨gb101, 0, none⟩ = some (.int .i64 a1_0) ∧ w38.cell? ⟨gb101, 1, none⟩ = some (.int .i64 a1_1) ∧ w38.cell? ⟨gb101, 2, none⟩ = some (.int .i64 a1_2) ∧ w38.cell? ⟨gb101, 3, none⟩ = some (.int .i64 a1_3) ∧ w38.cell? ⟨gb101, 4, none⟩ = some (.string a1_4) ∧ w38.cell? ⟨gb101, 5, none⟩ = some (.int .i64 a1_5) ∧ w38.cell? ⟨gb101, 6, none⟩ = some (.int .i64 a1_6) := hS_
         refine norm_ (a' := ?_) ?_ ?_
         rotate_left
         ·simp only [putAll, Act.put, List.setIfInBounds_toArray, List.set_cons_zero, List.set_cons_succ]
          rfl
         refine one_ (i := 8) (N := some 47) #[true, true, true, true, true, true, true, true, true, false, false, true, false] rfl rfl (one_of HT_.out (by kernel_rfl)) (by decide) (fun K hK => ?_)
         refine Kd.R_lit_step k29 _ 29 ?hg (N := 47) ?hd (xs := ([(⟨t134, t135, t136, t137, t138, t139, t140⟩ : S29)] : List (S29))) (inner := [.int .i64 t134, .int .i64 t135, .int .i64 t136, .int .i64 t137, .string t138, .int .i64 t139, .int .i64 t140]) (ok := fun _ => True) (okp := fun _ => True) ?hr ?hp (fun _ hk => hk) trivial (Below.refl _ _) (Nat.le_refl _) (by simp) ?_; (case hd => rfl); (case hg => rfl); (case hr => first | (go_simp; done) | (go_simp; rfl)); (case hp => exact (Reps.c7 (show Kd.M k29 _ _ _ (⟨t134, t135, t136, t137, t138, t139, t140⟩ : S29) [.int .i64 t134, .int .i64 t135, .int .i64 t136, .int .i64 t137, .string t138, .int .i64 t139, .int .i64 t140] from (k29_mkM _ _ _ (⟨t134, t135, t136, t137, t138, t139, t140⟩ : S29) )) (Reps.none _ _)))
         intro v142 w39 ho40 hb hg_ hnew_
         clear hg_ hnew_
         (first | rw [← Ny141.out] at ho40 | (simp only [Int.reduceToNat] at ho40; rw [← Ny141.out] at ho40))
         have n0_ := Aside0.mk (Kd.R_elder' (by (with_reducible repeat (first | apply Kd.R_alloc | apply Kd.R_drewN | apply Kd.R_drew)); exact HO111.out) (Kd.R_base ho40) hb)
         have n1_ := Aside0.mk (Kd.R_elder' (by (with_reducible repeat (first | apply Kd.R_alloc | apply Kd.R_drewN | apply Kd.R_drew)); exact HO124.out) (Kd.R_base ho40) hb)
         have n2_ := Aside0.mk (Kd.R_elder' (by (with_reducible repeat (first | apply Kd.R_alloc | apply Kd.R_drewN | apply Kd.R_drew)); exact HO133.out) (Kd.R_base ho40) hb)
         have n3_ := Aside0.mk (Kd.R_lower (Kd.R_newB (Kd.R_new' (Kd.R_new' (Kd.R_new' ho40 (Kd.R_lt (by (with_reducible repeat (first | apply Kd.R_alloc | apply Kd.R_drewN | apply Kd.R_drew)); exact HO111.out))) (Kd.R_lt (by (with_reducible repeat (first | apply Kd.R_alloc | apply Kd.R_drewN | apply Kd.R_drew)); exact HO124.out))) (Kd.R_lt (by (with_reducible repeat (first | apply Kd.R_alloc | apply Kd.R_drewN | apply Kd.R_drew)); exact HO133.out))) (g := gb101) (o := .cells #[.int .i64 a1_0, .int .i64 a1_1, .int .i64 a1_2, .int .i64 a1_3, .string a1_4, .int .i64 a1_5, .int .i64 a1_6] 29 (0, 0)) (by (with_reducible repeat (first | refine blk_drewN ?_ _ | refine blk_drew ?_ | refine blk_alloc ?_ _)); exact BK101.out)) (below_size (by repeat (first | (with_reducible first | exact HB.out | apply below_alloc | apply pw_below_drewN | apply below_drew1 | refine below_set ?_ GE101.out | refine below_set ?_ GE114.out | refine below_set ?_ GE127.out | refine below_set ?_ GE147.out) | exact HB.out))))
         have n4_ := Aside0.mk (blk_below (g := gb101) (o := .cells #[.int .i64 a1_0, .int .i64 a1_1, .int .i64 a1_2, .int .i64 a1_3, .string a1_4, .int .i64 a1_5, .int .i64 a1_6] 29 (0, 0)) (by (with_reducible repeat (first | refine blk_drewN ?_ _ | refine blk_drew ?_ | refine blk_alloc ?_ _)); exact BK101.out) hb)
         have n5_ := Aside0.mk (blk_below (g := gb114) (o := .cells #[.int .i64 t103, .int .i64 t104, .int .i64 t105, .int .i64 t106, .int .i64 t107, .int .i64 t108, .slice Ao22 t109.length co22] 26 (0, 0)) (by (with_reducible repeat (first | refine blk_drewN ?_ _ | refine blk_drew ?_ | refine blk_alloc ?_ _)); exact BK114.out) hb)
         have n6_ := Aside0.mk (blk_below (g := gb127) (o := .cells #[.int .i64 t103, .int .i64 t104, .int .i64 t105, .int .i64 t106, .int .i64 t107, .int .i64 t108, .slice Ao30 t122.length co30] 26 (0, 0)) (by (with_reducible repeat (first | refine blk_drewN ?_ _ | refine blk_drew ?_ | refine blk_alloc ?_ _)); exact BK127.out) hb)
         have n7_ := Aside0.mk (blk_below (g := gb147) (o := .cells #[.int .i64 0, .int .i64 0, .int .i64 0, .int .i64 0, .int .i64 0, .int .i64 0, .slice none 0 0] 26 (0, 0)) (by (with_reducible repeat (first | refine blk_drewN ?_ _ | refine blk_drew ?_ | refine blk_alloc ?_ _)); exact BK147.out) hb)
         have n8_ := Aside0.mk (below_step (by repeat (first | (with_reducible first | exact HB.out | apply below_alloc | apply pw_below_drewN | apply below_drew1 | refine below_set ?_ GE101.out | refine below_set ?_ GE114.out | refine below_set ?_ GE127.out | refine below_set ?_ GE147.out) | exact HB.out)) hb)
         clear HO111
         clear HO124
         clear HO133
         clear BK101
         clear BK114
         clear BK127
         clear BK147
         clear HB
         have HO111 := n0_
         have HO124 := n1_
         have HO133 := n2_
         have HO143 := n3_
         have BK101 := n4_
         have BK114 := n5_
         have BK127 := n6_
         have BK147 := n7_
         have HB := n8_
         clear n0_ n1_ n2_ n3_ n4_ n5_ n6_ n7_ n8_
         clear hb ho40
         refine hK.out _ _ ⟨(blk_cell BK114.out 0).trans rfl, (blk_cell BK114.out 1).trans rfl, (blk_cell BK114.out 2).trans rfl, (blk_cell BK114.out 3).trans rfl, (blk_cell BK114.out 4).trans rfl, (blk_cell BK114.out 5).trans rfl, (blk_cell BK114.out 6).trans rfl, (blk_cell BK101.out 0).trans rfl, (blk_cell BK101.out 1).trans rfl, (blk_cell BK101.out 2).trans rfl, (blk_cell BK101.out 3).trans rfl, (blk_cell BK101.out 4).trans rfl, (blk_cell BK101.out 5).trans rfl, (blk_cell BK101.out 6).trans rfl⟩ (fun hHeld => ?_)
         clear hK K
         refine norm_ (a' := ?_) ?_ ?_
         rotate_left
         ·show Act.put _ (some 47) _ = _
          simp only [Act.put, List.setIfInBounds_toArray, List.set_cons_zero, List.set_cons_succ, i64_w, i32_w]
          rfl
         exact norm_ (by first | (simp only [putAll, Act.put, List.setIfInBounds_toArray, List.set_cons_zero, List.set_cons_succ]; done) | (simp only [putAll, Act.put, List.setIfInBounds_toArray, List.set_cons_zero, List.set_cons_succ]; rfl)) (hJ2_5_7_8_11 (v129, v132, v142, gb147) _ ⟨hHeld, (by (with_reducible repeat (first | apply Kd.R_alloc | apply Kd.R_drewN | apply Kd.R_drew)); exact Kd.R_mono HO111.out (fun _ hk => ⟨hk.1.1, ⟨hk.1.2.1, ⟨hk.2, hk.1.2.2⟩⟩⟩)), (by (with_reducible repeat (first | apply Kd.R_alloc | apply Kd.R_drewN | apply Kd.R_drew)); exact Kd.R_mono HO124.out (fun _ hk => ⟨hk.1.1, ⟨hk.1.2.1, ⟨hk.2, hk.1.2.2⟩⟩⟩)), (by (with_reducible repeat (first | apply Kd.R_alloc | apply Kd.R_drewN | apply Kd.R_drew)); exact Kd.R_mono HO133.out (fun _ hk => ⟨hk.1.1, ⟨hk.1.2.1, ⟨hk.2, hk.1.2.2⟩⟩⟩)), (by (with_reducible repeat (first | apply Kd.R_alloc | apply Kd.R_drewN | apply Kd.R_drew)); exact Kd.R_mono HO143.out (fun _ hk => ⟨hk.1.1.1.2, ⟨hk.1.1.2, ⟨hk.1.2, hk.2⟩⟩⟩)), (by (with_reducible repeat (first | refine blk_drewN ?_ _ | refine blk_drew ?_ | refine blk_alloc ?_ _)); exact BK101.out), (by (with_reducible repeat (first | refine blk_drewN ?_ _ | refine blk_drew ?_ | refine blk_alloc ?_ _)); exact BK114.out), (by (with_reducible repeat (first | refine blk_drewN ?_ _ | refine blk_drew ?_ | refine blk_alloc ?_ _)); exact BK127.out), (by (with_reducible repeat (first | refine blk_drewN ?_ _ | refine blk_drew ?_ | refine blk_alloc ?_ _)); exact BK147.out), GW147.out, GE147.out, NB101_147.out, NB147_101.out, NB114_147.out, NB147_114.out, NB127_147.out, NB147_127.out, (by repeat (first | (with_reducible first | exact HB.out | apply below_alloc | apply pw_below_drewN | apply below_drew1 | refine below_set ?_ GE101.out | refine below_set ?_ GE114.out | refine below_set ?_ GE127.out | refine below_set ?_ GE147.out) | exact HB.out))⟩)
       ·skip
        rintro ⟨v129, v132, v142⟩ w39 ⟨hS_, h0_, h1_, h2_, h3_, h4_, h5_, h6_, h7_⟩
        have n0_ : Aside0 (Kd.R k29 29 w39 w.heap.size (fun k_ => some k_ ≠ (.slice Ao30 t122.length co30 : Value).ownBlock ∧ some k_ ≠ (v132 : Value).ownBlock ∧ some k_ ≠ (v142 : Value).ownBlock ∧ k_ ≠ gb101) (.slice Ao22 t109.length co22) t109) := ⟨h0_⟩
        have n1_ : Aside0 (Kd.R k29 29 w39 w.heap.size (fun k_ => some k_ ≠ (.slice Ao22 t109.length co22 : Value).ownBlock ∧ some k_ ≠ (v132 : Value).ownBlock ∧ some k_ ≠ (v142 : Value).ownBlock ∧ k_ ≠ gb101) (.slice Ao30 t122.length co30) t122) := ⟨h1_⟩
        have n2_ : Aside0 (Kd.R k29 29 w39 w.heap.size (fun k_ => some k_ ≠ (.slice Ao22 t109.length co22 : Value).ownBlock ∧ some k_ ≠ (.slice Ao30 t122.length co30 : Value).ownBlock ∧ some k_ ≠ (v142 : Value).ownBlock ∧ k_ ≠ gb101) v132 y131) := ⟨h2_⟩
        have n3_ : Aside0 (Kd.R k29 29 w39 w.heap.size (fun k_ => some k_ ≠ (.slice Ao22 t109.length co22 : Value).ownBlock ∧ some k_ ≠ (.slice Ao30 t122.length co30 : Value).ownBlock ∧ some k_ ≠ (v132 : Value).ownBlock ∧ k_ ≠ gb101) v142 y141) := ⟨h3_⟩
        have n4_ : Aside0 (w39.heap[gb101]? = some (.cells #[.int .i64 a1_0, .int .i64 a1_1, .int .i64 a1_2, .int .i64 a1_3, .string a1_4, .int .i64 a1_5, .int .i64 a1_6] 29 (0, 0))) := ⟨h4_⟩
        have n5_ : Aside0 (w39.heap[gb114]? = some (.cells #[.int .i64 t103, .int .i64 t104, .int .i64 t105, .int .i64 t106, .int .i64 t107, .int .i64 t108, .slice Ao22 t109.length co22] 26 (0, 0))) := ⟨h5_⟩
        have n6_ : Aside0 (w39.heap[gb127]? = some (.cells #[.int .i64 t103, .int .i64 t104, .int .i64 t105, .int .i64 t106, .int .i64 t107, .int .i64 t108, .slice Ao30 t122.length co30] 26 (0, 0))) := ⟨h6_⟩
        have n7_ : Aside0 (Below w.heap.size w w39) := ⟨h7_⟩
        clear HO111
        clear HO124
        clear BK101
        clear BK114
        clear BK127
        clear HB
        clear h0_ h1_ h2_ h3_ h4_ h5_ h6_ h7_
        have HO111 := n0_
        have HO124 := n1_
        have HO133 := n2_
        have HO143 := n3_
        have BK101 := n4_
        have BK114 := n5_
        have BK127 := n6_
        have HB := n7_
        clear n0_ n1_ n2_ n3_ n4_ n5_ n6_ n7_
        have hHeld : w39.cell? ⟨gb114, 0, none⟩ = some (.int .i64 t103) ∧ w39.cell? ⟨gb114, 1, none⟩ = some (.int .i64 t104) ∧ w39.cell? ⟨gb114, 2, none⟩ = some (.int .i64 t105) ∧ w39.cell? ⟨gb114, 3, none⟩ = some (.int .i64 t106) ∧ w39.cell? ⟨gb114, 4, none⟩ = some (.int .i64 t107) ∧ w39.cell? ⟨gb114, 5, none⟩ = some (.int .i64 t108) ∧ w39.cell? ⟨gb114, 6, none⟩ = some (.slice Ao22 t109.length co22) ∧ w39.cell? ⟨gb101, 0, none⟩ = some (.int .i64 a1_0) ∧ w39.cell? ⟨gb101, 1, none⟩ = some (.int .i64 a1_1) ∧ w39.cell? ⟨gb101, 2, none⟩ = some (.int .i64 a1_2) ∧ w39.cell? ⟨gb101, 3, none⟩ = some (.int .i64 a1_3) ∧ w39.cell? ⟨gb101, 4, none⟩ = some (.string a1_4) ∧ w39.cell? ⟨gb101, 5, none⟩ = some (.int .i64 a1_5) ∧ w39.cell? ⟨gb101, 6, none⟩ = some (.int .i64 a1_6) := hS_
        obtain ⟨Ao41, co41, eo41⟩ := Kd.R_slice HO143.out
        (first | subst eo41 | (injection eo41 with f1_ f2_ f3_; have f4_ := f1_.symm; have f5_ := f3_.symm; clear f1_ f2_ f3_; subst f4_; subst f5_))
        refine norm_ (a' := ?_) ?_ ?_
        rotate_left
        ·simp only [putAll, Act.put, List.setIfInBounds_toArray, List.set_cons_zero, List.set_cons_succ]
         rfl
        refine two_ (i := 9) (j := 11) (Ni := some 48) (Nj := some 12) #[true, true, true, true, true, true, true, true, true, true, false, false, false] #[true, true, true, true, true, true, true, true, true, false, false, true, false] rfl rfl rfl rfl (two_of HT_.out (by kernel_rfl)) (by decide) (by decide) (fun K hK => ?_) (fun K hK => ?_)
        ·skip
         refine Kd.R_append_rows_step k29 (w0 := w) w.heap.size (by rfl) (.tmp 44) (.tmp 47) 24 29 (.agg #[(.int .i64 0), (.int .i64 0), (.int .i64 0), (.int .i64 0), (.string ⟨#[]⟩), (.int .i64 0), (.int .i64 0)]) 64 rfl Tryd.underlying24 info29 rfl (by decide) (by omega) v132 y131 y141 _ _ _ (fun k_ => some k_ ≠ (.slice Ao22 t109.length co22 : Value).ownBlock ∧ some k_ ≠ (.slice Ao30 t122.length co30 : Value).ownBlock ∧ some k_ ≠ (.slice Ao41 y141.length co41 : Value).ownBlock ∧ k_ ≠ gb101) (fun _ => False) rfl rfl ?aO ?aR (fun _ _ h => h) (fun _ h => h.elim) ?aF ?aB ?aS ?aL ?_
         (case aR => repeat (first | exact (Kd.R_reads' HO143.out).2.2 | (with_reducible refine Kd.C_alloc ?_ _) | (with_reducible refine Kd.C_drewN ?_ _) | (with_reducible refine Kd.C_drew ?_)))
         (case aB => exact (by repeat (first | (with_reducible first | exact HB.out | apply below_alloc | apply pw_below_drewN | apply below_drew1 | refine below_set ?_ GE101.out | refine below_set ?_ GE114.out | refine below_set ?_ GE127.out) | exact HB.out)))
         (case aF => exact (fun k_ hk => ⟨Kd.fresh' (Kd.R_lt (by (with_reducible repeat (first | apply Kd.R_alloc | apply Kd.R_drewN | apply Kd.R_drew)); exact HO111.out)) k_ hk, Kd.fresh' (Kd.R_lt (by (with_reducible repeat (first | apply Kd.R_alloc | apply Kd.R_drewN | apply Kd.R_drew)); exact HO124.out)) k_ hk, Kd.fresh' (Kd.R_lt (by (with_reducible repeat (first | apply Kd.R_alloc | apply Kd.R_drewN | apply Kd.R_drew)); exact HO143.out)) k_ hk, Kd.freshB (g := gb101) (o := .cells #[.int .i64 a1_0, .int .i64 a1_1, .int .i64 a1_2, .int .i64 a1_3, .string a1_4, .int .i64 a1_5, .int .i64 a1_6] 29 (0, 0)) (by (with_reducible repeat (first | refine blk_drewN ?_ _ | refine blk_drew ?_ | refine blk_alloc ?_ _)); exact BK101.out) k_ hk⟩))
         (case aO => exact (by (with_reducible repeat (first | apply Kd.R_alloc | apply Kd.R_drewN | apply Kd.R_drew)); exact HO133.out))
         (case aS => exact (below_size (by repeat (first | (with_reducible first | exact HB.out | apply below_alloc | apply pw_below_drewN | apply below_drew1 | refine below_set ?_ GE101.out | refine below_set ?_ GE114.out | refine below_set ?_ GE127.out) | exact HB.out))))
         (case aL => have := LMc14.out; omega)
         intro v145 w40 ho hb hg hat
         rw [← Ny144.out] at ho
         have n0_ := Aside0.mk (blk_grown (g := gb101) (o := .cells #[.int .i64 a1_0, .int .i64 a1_1, .int .i64 a1_2, .int .i64 a1_3, .string a1_4, .int .i64 a1_5, .int .i64 a1_6] 29 (0, 0)) (by (with_reducible repeat (first | refine blk_drewN ?_ _ | refine blk_drew ?_ | refine blk_alloc ?_ _)); exact BK101.out) hg (Kd.R_away HO133.out (fun _ hk => hk.2.2.2)))
         have n1_ := Aside0.mk (Kd.R_after (ok := (fun k_ => some k_ ≠ (.slice Ao30 t122.length co30 : Value).ownBlock ∧ some k_ ≠ (.slice Ao41 y141.length co41 : Value).ownBlock ∧ k_ ≠ gb101)) (by (with_reducible repeat (first | apply Kd.R_alloc | apply Kd.R_drewN | apply Kd.R_drew)); exact Kd.R_mono HO111.out (fun _ hk => ⟨⟨hk.1, ⟨hk.2.2.1, hk.2.2.2⟩⟩, hk.2.1⟩)) hg hat)
         have n2_ := Aside0.mk (blk_grown (g := gb114) (o := .cells #[.int .i64 t103, .int .i64 t104, .int .i64 t105, .int .i64 t106, .int .i64 t107, .int .i64 t108, .slice Ao22 t109.length co22] 26 (0, 0)) (by (with_reducible repeat (first | refine blk_drewN ?_ _ | refine blk_drew ?_ | refine blk_alloc ?_ _)); exact BK114.out) hg (Kd.R_ne HO133.out BK114.out (by decide)))
         have n3_ := Aside0.mk (Kd.R_after (ok := (fun k_ => some k_ ≠ (.slice Ao22 t109.length co22 : Value).ownBlock ∧ some k_ ≠ (.slice Ao41 y141.length co41 : Value).ownBlock ∧ k_ ≠ gb101)) (by (with_reducible repeat (first | apply Kd.R_alloc | apply Kd.R_drewN | apply Kd.R_drew)); exact Kd.R_mono HO124.out (fun _ hk => ⟨⟨hk.1, ⟨hk.2.2.1, hk.2.2.2⟩⟩, hk.2.1⟩)) hg hat)
         have n4_ := Aside0.mk (blk_grown (g := gb127) (o := .cells #[.int .i64 t103, .int .i64 t104, .int .i64 t105, .int .i64 t106, .int .i64 t107, .int .i64 t108, .slice Ao30 t122.length co30] 26 (0, 0)) (by (with_reducible repeat (first | refine blk_drewN ?_ _ | refine blk_drew ?_ | refine blk_alloc ?_ _)); exact BK127.out) hg (Kd.R_ne HO133.out BK127.out (by decide)))
         have n5_ := Aside0.mk (Kd.R_after (ok := (fun k_ => some k_ ≠ (.slice Ao22 t109.length co22 : Value).ownBlock ∧ some k_ ≠ (.slice Ao30 t122.length co30 : Value).ownBlock ∧ k_ ≠ gb101)) (by (with_reducible repeat (first | apply Kd.R_alloc | apply Kd.R_drewN | apply Kd.R_drew)); exact Kd.R_mono HO143.out (fun _ hk => ⟨⟨hk.1, ⟨hk.2.1, hk.2.2.2⟩⟩, hk.2.2.1⟩)) hg hat)
         have n6_ := Aside0.mk (hb)
         have n7_ := Aside0.mk (ho)
         clear BK101
         clear HO111
         clear BK114
         clear HO124
         clear BK127
         clear HO143
         clear HB
         clear HO133
         have BK101 := n0_
         have HO111 := n1_
         have BK114 := n2_
         have HO124 := n3_
         have BK127 := n4_
         have HO143 := n5_
         have HB := n6_
         have HO146 := n7_
         clear n0_ n1_ n2_ n3_ n4_ n5_ n6_ n7_
         clear ho hb hg hat
         obtain ⟨Ao42, co42, eo42⟩ := Kd.R_slice HO146.out
         (first | subst eo42 | (injection eo42 with f1_ f2_ f3_; have f4_ := f1_.symm; have f5_ := f3_.symm; clear f1_ f2_ f3_; subst f4_; subst f5_))
         refine hK.out _ _ ⟨(blk_cell BK114.out 0).trans rfl, (blk_cell BK114.out 1).trans rfl, (blk_cell BK114.out 2).trans rfl, (blk_cell BK114.out 3).trans rfl, (blk_cell BK114.out 4).trans rfl, (blk_cell BK114.out 5).trans rfl, (blk_cell BK114.out 6).trans rfl, (blk_cell BK101.out 0).trans rfl, (blk_cell BK101.out 1).trans rfl, (blk_cell BK101.out 2).trans rfl, (blk_cell BK101.out 3).trans rfl, (blk_cell BK101.out 4).trans rfl, (blk_cell BK101.out 5).trans rfl, (blk_cell BK101.out 6).trans rfl⟩ (fun hHeld => ?_)
         clear hK K
         refine norm_ (a' := ?_) ?_ ?_
         rotate_left
         ·show Act.put _ (some 48) _ = _
          simp only [Act.put, List.setIfInBounds_toArray, List.set_cons_zero, List.set_cons_succ, i64_w, i32_w]
          rfl
         refine pure_ (i := 10) (N := some 49) (v := ?_) (a' := ?_) #[true, true, true, true, true, true, true, true, true, true, true, false, false] rfl rfl (any_of HT_.out (by kernel_rfl)) (fun _ _ _ h => h) (Or.inl ⟨by rfl, ?_⟩) ?_ ?_
         rotate_left
         ·intro w'
          go_simp
          with_reducible rfl
         rotate_left
         ·simp only [Act.put, List.setIfInBounds_toArray, List.set_cons_zero, List.set_cons_succ, i64_w, i32_w]
          rfl
         exact norm_ (by first | (simp only [putAll, Act.put, List.setIfInBounds_toArray, List.set_cons_zero, List.set_cons_succ]; done) | (simp only [putAll, Act.put, List.setIfInBounds_toArray, List.set_cons_zero, List.set_cons_succ]; rfl)) (hJ2_5_7_8_9 (v129, v132, .slice Ao41 y141.length co41, .slice Ao42 y144.length co42) _ ⟨hHeld, (by (with_reducible repeat (first | apply Kd.R_alloc | apply Kd.R_drewN | apply Kd.R_drew)); exact Kd.R_mono HO111.out (fun _ hk => ⟨hk.1.1, ⟨hk.1.2.1, ⟨hk.2, hk.1.2.2⟩⟩⟩)), (by (with_reducible repeat (first | apply Kd.R_alloc | apply Kd.R_drewN | apply Kd.R_drew)); exact Kd.R_mono HO124.out (fun _ hk => ⟨hk.1.1, ⟨hk.1.2.1, ⟨hk.2, hk.1.2.2⟩⟩⟩)), (by (with_reducible repeat (first | apply Kd.R_alloc | apply Kd.R_drewN | apply Kd.R_drew)); exact Kd.R_mono HO143.out (fun _ hk => ⟨hk.1.1, ⟨hk.1.2.1, ⟨hk.2, hk.1.2.2⟩⟩⟩)), (by (with_reducible repeat (first | apply Kd.R_alloc | apply Kd.R_drewN | apply Kd.R_drew)); exact HO146.out), (by (with_reducible repeat (first | refine blk_drewN ?_ _ | refine blk_drew ?_ | refine blk_alloc ?_ _)); exact BK101.out), (by (with_reducible repeat (first | refine blk_drewN ?_ _ | refine blk_drew ?_ | refine blk_alloc ?_ _)); exact BK114.out), (by (with_reducible repeat (first | refine blk_drewN ?_ _ | refine blk_drew ?_ | refine blk_alloc ?_ _)); exact BK127.out), (by repeat (first | (with_reducible first | exact HB.out | apply below_alloc | apply pw_below_drewN | apply below_drew1 | refine below_set ?_ GE101.out | refine below_set ?_ GE114.out | refine below_set ?_ GE127.out) | exact HB.out))⟩)
        ·skip
         refine box_step ?hg (N := 12) ?hd (cs := #[.int .i64 0, .int .i64 0, .int .i64 0, .int .i64 0, .int .i64 0, .int .i64 0, .slice none 0 0]) (t := 26) ?hr ?_; (case hd => rfl); (case hg => rfl); (case hr => first | (go_simp; done) | (go_simp; rfl))
         intro gb147 hg w40 hbox hb
         have n0_ := Aside0.mk (Kd.R_below (by (with_reducible repeat (first | apply Kd.R_alloc | apply Kd.R_drewN | apply Kd.R_drew)); exact HO111.out) hb)
         have n1_ := Aside0.mk (Kd.R_below (by (with_reducible repeat (first | apply Kd.R_alloc | apply Kd.R_drewN | apply Kd.R_drew)); exact HO124.out) hb)
         have n2_ := Aside0.mk (Kd.R_below (by (with_reducible repeat (first | apply Kd.R_alloc | apply Kd.R_drewN | apply Kd.R_drew)); exact HO133.out) hb)
         have n3_ := Aside0.mk (Kd.R_below (by (with_reducible repeat (first | apply Kd.R_alloc | apply Kd.R_drewN | apply Kd.R_drew)); exact HO143.out) hb)
         have n4_ := Aside0.mk (blk_below (g := gb101) (o := .cells #[.int .i64 a1_0, .int .i64 a1_1, .int .i64 a1_2, .int .i64 a1_3, .string a1_4, .int .i64 a1_5, .int .i64 a1_6] 29 (0, 0)) (by (with_reducible repeat (first | refine blk_drewN ?_ _ | refine blk_drew ?_ | refine blk_alloc ?_ _)); exact BK101.out) hb)
         have n5_ := Aside0.mk (blk_below (g := gb114) (o := .cells #[.int .i64 t103, .int .i64 t104, .int .i64 t105, .int .i64 t106, .int .i64 t107, .int .i64 t108, .slice Ao22 t109.length co22] 26 (0, 0)) (by (with_reducible repeat (first | refine blk_drewN ?_ _ | refine blk_drew ?_ | refine blk_alloc ?_ _)); exact BK114.out) hb)
         have n6_ := Aside0.mk (blk_below (g := gb127) (o := .cells #[.int .i64 t103, .int .i64 t104, .int .i64 t105, .int .i64 t106, .int .i64 t107, .int .i64 t108, .slice Ao30 t122.length co30] 26 (0, 0)) (by (with_reducible repeat (first | refine blk_drewN ?_ _ | refine blk_drew ?_ | refine blk_alloc ?_ _)); exact BK127.out) hb)
         have n7_ := Aside0.mk (below_step (by repeat (first | (with_reducible first | exact HB.out | apply below_alloc | apply pw_below_drewN | apply below_drew1 | refine below_set ?_ GE101.out | refine below_set ?_ GE114.out | refine below_set ?_ GE127.out) | exact HB.out)) hb)
         have n8_ := Aside0.mk (hbox)
         have n9_ := Aside0.mk ((by rw [hg]; exact (below_size (by repeat (first | (with_reducible first | exact HB.out | apply below_alloc | apply pw_below_drewN | apply below_drew1 | refine below_set ?_ GE101.out | refine below_set ?_ GE114.out | refine below_set ?_ GE127.out) | exact HB.out))) : w.heap.size ≤ gb147))
         have n10_ := Aside0.mk ((by rw [hg]; exact (below_size (by repeat (first | (with_reducible first | exact HB.out | apply below_alloc | apply pw_below_drewN | apply below_drew1 | refine below_set ?_ GE101.out | refine below_set ?_ GE114.out | refine below_set ?_ GE127.out) | exact HB.out))) : w.heap.size ≤ gb147))
         have n11_ := Aside0.mk ((by rw [hg]; exact Nat.ne_of_lt (blk_lt (g := gb101) (o := .cells #[.int .i64 a1_0, .int .i64 a1_1, .int .i64 a1_2, .int .i64 a1_3, .string a1_4, .int .i64 a1_5, .int .i64 a1_6] 29 (0, 0)) (by (with_reducible repeat (first | refine blk_drewN ?_ _ | refine blk_drew ?_ | refine blk_alloc ?_ _)); exact BK101.out)) : gb101 ≠ gb147))
         have n12_ := Aside0.mk ((by rw [hg]; exact Nat.ne_of_gt (blk_lt (g := gb101) (o := .cells #[.int .i64 a1_0, .int .i64 a1_1, .int .i64 a1_2, .int .i64 a1_3, .string a1_4, .int .i64 a1_5, .int .i64 a1_6] 29 (0, 0)) (by (with_reducible repeat (first | refine blk_drewN ?_ _ | refine blk_drew ?_ | refine blk_alloc ?_ _)); exact BK101.out)) : gb147 ≠ gb101))
         have n13_ := Aside0.mk ((by rw [hg]; exact Nat.ne_of_lt (blk_lt (g := gb114) (o := .cells #[.int .i64 t103, .int .i64 t104, .int .i64 t105, .int .i64 t106, .int .i64 t107, .int .i64 t108, .slice Ao22 t109.length co22] 26 (0, 0)) (by (with_reducible repeat (first | refine blk_drewN ?_ _ | refine blk_drew ?_ | refine blk_alloc ?_ _)); exact BK114.out)) : gb114 ≠ gb147))
         have n14_ := Aside0.mk ((by rw [hg]; exact Nat.ne_of_gt (blk_lt (g := gb114) (o := .cells #[.int .i64 t103, .int .i64 t104, .int .i64 t105, .int .i64 t106, .int .i64 t107, .int .i64 t108, .slice Ao22 t109.length co22] 26 (0, 0)) (by (with_reducible repeat (first | refine blk_drewN ?_ _ | refine blk_drew ?_ | refine blk_alloc ?_ _)); exact BK114.out)) : gb147 ≠ gb114))
         have n15_ := Aside0.mk ((by rw [hg]; exact Nat.ne_of_lt (blk_lt (g := gb127) (o := .cells #[.int .i64 t103, .int .i64 t104, .int .i64 t105, .int .i64 t106, .int .i64 t107, .int .i64 t108, .slice Ao30 t122.length co30] 26 (0, 0)) (by (with_reducible repeat (first | refine blk_drewN ?_ _ | refine blk_drew ?_ | refine blk_alloc ?_ _)); exact BK127.out)) : gb127 ≠ gb147))
         have n16_ := Aside0.mk ((by rw [hg]; exact Nat.ne_of_gt (blk_lt (g := gb127) (o := .cells #[.int .i64 t103, .int .i64 t104, .int .i64 t105, .int .i64 t106, .int .i64 t107, .int .i64 t108, .slice Ao30 t122.length co30] 26 (0, 0)) (by (with_reducible repeat (first | refine blk_drewN ?_ _ | refine blk_drew ?_ | refine blk_alloc ?_ _)); exact BK127.out)) : gb147 ≠ gb127))
         clear HO111
         clear HO124
         clear HO133
         clear HO143
         clear BK101
         clear BK114
         clear BK127
         clear HB
         have HO111 := n0_
         have HO124 := n1_
         have HO133 := n2_
         have HO143 := n3_
         have BK101 := n4_
         have BK114 := n5_
         have BK127 := n6_
         have HB := n7_
         have BK147 := n8_
         have GW147 := n9_
         have GE147 := n10_
         have NB101_147 := n11_
         have NB147_101 := n12_
         have NB114_147 := n13_
         have NB147_114 := n14_
         have NB127_147 := n15_
         have NB147_127 := n16_
         clear n0_ n1_ n2_ n3_ n4_ n5_ n6_ n7_ n8_ n9_ n10_ n11_ n12_ n13_ n14_ n15_ n16_
         clear hb hbox hg
         refine hK.out _ _ ⟨(blk_cell BK114.out 0).trans rfl, (blk_cell BK114.out 1).trans rfl, (blk_cell BK114.out 2).trans rfl, (blk_cell BK114.out 3).trans rfl, (blk_cell BK114.out 4).trans rfl, (blk_cell BK114.out 5).trans rfl, (blk_cell BK114.out 6).trans rfl, (blk_cell BK101.out 0).trans rfl, (blk_cell BK101.out 1).trans rfl, (blk_cell BK101.out 2).trans rfl, (blk_cell BK101.out 3).trans rfl, (blk_cell BK101.out 4).trans rfl, (blk_cell BK101.out 5).trans rfl, (blk_cell BK101.out 6).trans rfl⟩ (fun hHeld => ?_)
         clear hK K
         refine norm_ (a' := ?_) ?_ ?_
         rotate_left
         ·show Act.put _ (some 12) _ = _
          simp only [Act.put, List.setIfInBounds_toArray, List.set_cons_zero, List.set_cons_succ, i64_w, i32_w]
          rfl
         exact norm_ (by first | (simp only [putAll, Act.put, List.setIfInBounds_toArray, List.set_cons_zero, List.set_cons_succ]; done) | (simp only [putAll, Act.put, List.setIfInBounds_toArray, List.set_cons_zero, List.set_cons_succ]; rfl)) (hJ2_5_7_8_11 (v129, v132, (.slice Ao41 y141.length co41), gb147) _ ⟨hHeld, (by (with_reducible repeat (first | apply Kd.R_alloc | apply Kd.R_drewN | apply Kd.R_drew)); exact HO111.out), (by (with_reducible repeat (first | apply Kd.R_alloc | apply Kd.R_drewN | apply Kd.R_drew)); exact HO124.out), (by (with_reducible repeat (first | apply Kd.R_alloc | apply Kd.R_drewN | apply Kd.R_drew)); exact HO133.out), (by (with_reducible repeat (first | apply Kd.R_alloc | apply Kd.R_drewN | apply Kd.R_drew)); exact HO143.out), (by (with_reducible repeat (first | refine blk_drewN ?_ _ | refine blk_drew ?_ | refine blk_alloc ?_ _)); exact BK101.out), (by (with_reducible repeat (first | refine blk_drewN ?_ _ | refine blk_drew ?_ | refine blk_alloc ?_ _)); exact BK114.out), (by (with_reducible repeat (first | refine blk_drewN ?_ _ | refine blk_drew ?_ | refine blk_alloc ?_ _)); exact BK127.out), (by (with_reducible repeat (first | refine blk_drewN ?_ _ | refine blk_drew ?_ | refine blk_alloc ?_ _)); exact BK147.out), GW147.out, GE147.out, NB101_147.out, NB147_101.out, NB114_147.out, NB147_114.out, NB127_147.out, NB147_127.out, (by repeat (first | (with_reducible first | exact HB.out | apply below_alloc | apply pw_below_drewN | apply below_drew1 | refine below_set ?_ GE101.out | refine below_set ?_ GE114.out | refine below_set ?_ GE127.out | refine below_set ?_ GE147.out) | exact HB.out))⟩)
      ·skip
       rintro ⟨v129, v132, v142, gb147⟩ w40 ⟨hS_, h0_, h1_, h2_, h3_, h4_, h5_, h6_, h7_, h8_, h9_, h10_, h11_, h12_, h13_, h14_, h15_, h16_⟩
       have n0_ : Aside0 (Kd.R k29 29 w40 w.heap.size (fun k_ => some k_ ≠ (.slice Ao30 t122.length co30 : Value).ownBlock ∧ some k_ ≠ (v132 : Value).ownBlock ∧ some k_ ≠ (v142 : Value).ownBlock ∧ k_ ≠ gb101) (.slice Ao22 t109.length co22) t109) := ⟨h0_⟩
       have n1_ : Aside0 (Kd.R k29 29 w40 w.heap.size (fun k_ => some k_ ≠ (.slice Ao22 t109.length co22 : Value).ownBlock ∧ some k_ ≠ (v132 : Value).ownBlock ∧ some k_ ≠ (v142 : Value).ownBlock ∧ k_ ≠ gb101) (.slice Ao30 t122.length co30) t122) := ⟨h1_⟩
       have n2_ : Aside0 (Kd.R k29 29 w40 w.heap.size (fun k_ => some k_ ≠ (.slice Ao22 t109.length co22 : Value).ownBlock ∧ some k_ ≠ (.slice Ao30 t122.length co30 : Value).ownBlock ∧ some k_ ≠ (v142 : Value).ownBlock ∧ k_ ≠ gb101) v132 y131) := ⟨h2_⟩
       have n3_ : Aside0 (Kd.R k29 29 w40 w.heap.size (fun k_ => some k_ ≠ (.slice Ao22 t109.length co22 : Value).ownBlock ∧ some k_ ≠ (.slice Ao30 t122.length co30 : Value).ownBlock ∧ some k_ ≠ (v132 : Value).ownBlock ∧ k_ ≠ gb101) v142 y141) := ⟨h3_⟩
       have n4_ : Aside0 (w40.heap[gb101]? = some (.cells #[.int .i64 a1_0, .int .i64 a1_1, .int .i64 a1_2, .int .i64 a1_3, .string a1_4, .int .i64 a1_5, .int .i64 a1_6] 29 (0, 0))) := ⟨h4_⟩
       have n5_ : Aside0 (w40.heap[gb114]? = some (.cells #[.int .i64 t103, .int .i64 t104, .int .i64 t105, .int .i64 t106, .int .i64 t107, .int .i64 t108, .slice Ao22 t109.length co22] 26 (0, 0))) := ⟨h5_⟩
       have n6_ : Aside0 (w40.heap[gb127]? = some (.cells #[.int .i64 t103, .int .i64 t104, .int .i64 t105, .int .i64 t106, .int .i64 t107, .int .i64 t108, .slice Ao30 t122.length co30] 26 (0, 0))) := ⟨h6_⟩
       have n7_ : Aside0 (w40.heap[gb147]? = some (.cells #[.int .i64 0, .int .i64 0, .int .i64 0, .int .i64 0, .int .i64 0, .int .i64 0, .slice none 0 0] 26 (0, 0))) := ⟨h7_⟩
       have n8_ : Aside0 (w.heap.size ≤ gb147) := ⟨h8_⟩
       have n9_ : Aside0 (w.heap.size ≤ gb147) := ⟨h9_⟩
       have n10_ : Aside0 (gb101 ≠ gb147) := ⟨h10_⟩
       have n11_ : Aside0 (gb147 ≠ gb101) := ⟨h11_⟩
       have n12_ : Aside0 (gb114 ≠ gb147) := ⟨h12_⟩
       have n13_ : Aside0 (gb147 ≠ gb114) := ⟨h13_⟩
       have n14_ : Aside0 (gb127 ≠ gb147) := ⟨h14_⟩
       have n15_ : Aside0 (gb147 ≠ gb127) := ⟨h15_⟩
       have n16_ : Aside0 (Below w.heap.size w w40) := ⟨h16_⟩
       clear HO111
       clear HO124
       clear BK101
       clear BK114
       clear BK127
       clear HB
       clear h0_ h1_ h2_ h3_ h4_ h5_ h6_ h7_ h8_ h9_ h10_ h11_ h12_ h13_ h14_ h15_ h16_
       have HO111 := n0_
       have HO124 := n1_
       have HO133 := n2_
       have HO143 := n3_
       have BK101 := n4_
       have BK114 := n5_
       have BK127 := n6_
       have BK147 := n7_
       have GW147 := n8_
       have GE147 := n9_
       have NB101_147 := n10_
       have NB147_101 := n11_
       have NB114_147 := n12_
       have NB147_114 := n13_
       have NB127_147 := n14_
       have NB147_127 := n15_
       have HB := n16_
       clear n0_ n1_ n2_ n3_ n4_ n5_ n6_ n7_ n8_ n9_ n10_ n11_ n12_ n13_ n14_ n15_ n16_
       have hHeld : w40.cell? ⟨gb114, 0, none⟩ = some (.int .i64 t103) ∧ w40.cell? ⟨gb114, 1, none⟩ = some (.int .i64 t104) ∧ w40.cell? ⟨gb114, 2, none⟩ = some (.int .i64 t105) ∧ w40.cell? ⟨gb114, 3, none⟩ = some (.int .i64 t106) ∧ w40.cell? ⟨gb114, 4, none⟩ = some (.int .i64 t107) ∧ w40.cell? ⟨gb114, 5, none⟩ = some (.int .i64 t108) ∧ w40.cell? ⟨gb114, 6, none⟩ = some (.slice Ao22 t109.length co22) ∧ w40.cell? ⟨gb101, 0, none⟩ = some (.int .i64 a1_0) ∧ w40.cell? ⟨gb101, 1, none⟩ = some (.int .i64 a1_1) ∧ w40.cell? ⟨gb101, 2, none⟩ = some (.int .i64 a1_2) ∧ w40.cell? ⟨gb101, 3, none⟩ = some (.int .i64 a1_3) ∧ w40.cell? ⟨gb101, 4, none⟩ = some (.string a1_4) ∧ w40.cell? ⟨gb101, 5, none⟩ = some (.int .i64 a1_5) ∧ w40.cell? ⟨gb101, 6, none⟩ = some (.int .i64 a1_6) := hS_
       obtain ⟨Ao42, co42, eo42⟩ := Kd.R_slice HO143.out
       (first | subst eo42 | (injection eo42 with f1_ f2_ f3_; have f4_ := f1_.symm; have f5_ := f3_.symm; clear f1_ f2_ f3_; subst f4_; subst f5_))
       refine norm_ (a' := ?_) ?_ ?_
       rotate_left
       ·simp only [putAll, Act.put, List.setIfInBounds_toArray, List.set_cons_zero, List.set_cons_succ]
        rfl
       refine one_ (i := 9) (N := some 48) #[true, true, true, true, true, true, true, true, true, true, false, true, false] rfl rfl (one_of HT_.out (by kernel_rfl)) (by decide) (fun K hK => ?_)
       refine Kd.R_append_rows_step k29 (w0 := w) w.heap.size (by rfl) (.tmp 44) (.tmp 47) 24 29 (.agg #[(.int .i64 0), (.int .i64 0), (.int .i64 0), (.int .i64 0), (.string ⟨#[]⟩), (.int .i64 0), (.int .i64 0)]) 64 rfl Tryd.underlying24 info29 rfl (by decide) (by omega) v132 y131 y141 _ _ _ (fun k_ => some k_ ≠ (.slice Ao22 t109.length co22 : Value).ownBlock ∧ some k_ ≠ (.slice Ao30 t122.length co30 : Value).ownBlock ∧ some k_ ≠ (.slice Ao42 y141.length co42 : Value).ownBlock ∧ k_ ≠ gb101) (fun _ => False) rfl rfl ?aO ?aR (fun _ _ h => h) (fun _ h => h.elim) ?aF ?aB ?aS ?aL ?_
       (case aR => repeat (first | exact (Kd.R_reads' HO143.out).2.2 | (with_reducible refine Kd.C_alloc ?_ _) | (with_reducible refine Kd.C_drewN ?_ _) | (with_reducible refine Kd.C_drew ?_)))
       (case aB => exact (by repeat (first | (with_reducible first | exact HB.out | apply below_alloc | apply pw_below_drewN | apply below_drew1 | refine below_set ?_ GE101.out | refine below_set ?_ GE114.out | refine below_set ?_ GE127.out | refine below_set ?_ GE147.out) | exact HB.out)))
       (case aF => exact (fun k_ hk => ⟨Kd.fresh' (Kd.R_lt (by (with_reducible repeat (first | apply Kd.R_alloc | apply Kd.R_drewN | apply Kd.R_drew)); exact HO111.out)) k_ hk, Kd.fresh' (Kd.R_lt (by (with_reducible repeat (first | apply Kd.R_alloc | apply Kd.R_drewN | apply Kd.R_drew)); exact HO124.out)) k_ hk, Kd.fresh' (Kd.R_lt (by (with_reducible repeat (first | apply Kd.R_alloc | apply Kd.R_drewN | apply Kd.R_drew)); exact HO143.out)) k_ hk, Kd.freshB (g := gb101) (o := .cells #[.int .i64 a1_0, .int .i64 a1_1, .int .i64 a1_2, .int .i64 a1_3, .string a1_4, .int .i64 a1_5, .int .i64 a1_6] 29 (0, 0)) (by (with_reducible repeat (first | refine blk_drewN ?_ _ | refine blk_drew ?_ | refine blk_alloc ?_ _)); exact BK101.out) k_ hk⟩))
       (case aO => exact (by (with_reducible repeat (first | apply Kd.R_alloc | apply Kd.R_drewN | apply Kd.R_drew)); exact HO133.out))
       (case aS => exact (below_size (by repeat (first | (with_reducible first | exact HB.out | apply below_alloc | apply pw_below_drewN | apply below_drew1 | refine below_set ?_ GE101.out | refine below_set ?_ GE114.out | refine below_set ?_ GE127.out | refine below_set ?_ GE147.out) | exact HB.out))))
       (case aL => have := LMc14.out; omega)
       intro v145 w41 ho hb hg hat
       rw [← Ny144.out] at ho
       have n0_ := Aside0.mk (blk_grown (g := gb101) (o := .cells #[.int .i64 a1_0, .int .i64 a1_1, .int .i64 a1_2, .int .i64 a1_3, .string a1_4, .int .i64 a1_5, .int .i64 a1_6] 29 (0, 0)) (by (with_reducible repeat (first | refine blk_drewN ?_ _ | refine blk_drew ?_ | refine blk_alloc ?_ _)); exact BK101.out) hg (Kd.R_away HO133.out (fun _ hk => hk.2.2.2)))
       have n1_ := Aside0.mk (Kd.R_after (ok := (fun k_ => some k_ ≠ (.slice Ao30 t122.length co30 : Value).ownBlock ∧ some k_ ≠ (.slice Ao42 y141.length co42 : Value).ownBlock ∧ k_ ≠ gb101)) (by (with_reducible repeat (first | apply Kd.R_alloc | apply Kd.R_drewN | apply Kd.R_drew)); exact Kd.R_mono HO111.out (fun _ hk => ⟨⟨hk.1, ⟨hk.2.2.1, hk.2.2.2⟩⟩, hk.2.1⟩)) hg hat)
       have n2_ := Aside0.mk (blk_grown (g := gb114) (o := .cells #[.int .i64 t103, .int .i64 t104, .int .i64 t105, .int .i64 t106, .int .i64 t107, .int .i64 t108, .slice Ao22 t109.length co22] 26 (0, 0)) (by (with_reducible repeat (first | refine blk_drewN ?_ _ | refine blk_drew ?_ | refine blk_alloc ?_ _)); exact BK114.out) hg (Kd.R_ne HO133.out BK114.out (by decide)))
       have n3_ := Aside0.mk (Kd.R_after (ok := (fun k_ => some k_ ≠ (.slice Ao22 t109.length co22 : Value).ownBlock ∧ some k_ ≠ (.slice Ao42 y141.length co42 : Value).ownBlock ∧ k_ ≠ gb101)) (by (with_reducible repeat (first | apply Kd.R_alloc | apply Kd.R_drewN | apply Kd.R_drew)); exact Kd.R_mono HO124.out (fun _ hk => ⟨⟨hk.1, ⟨hk.2.2.1, hk.2.2.2⟩⟩, hk.2.1⟩)) hg hat)
       have n4_ := Aside0.mk (blk_grown (g := gb127) (o := .cells #[.int .i64 t103, .int .i64 t104, .int .i64 t105, .int .i64 t106, .int .i64 t107, .int .i64 t108, .slice Ao30 t122.length co30] 26 (0, 0)) (by (with_reducible repeat (first | refine blk_drewN ?_ _ | refine blk_drew ?_ | refine blk_alloc ?_ _)); exact BK127.out) hg (Kd.R_ne HO133.out BK127.out (by decide)))
       have n5_ := Aside0.mk (Kd.R_after (ok := (fun k_ => some k_ ≠ (.slice Ao22 t109.length co22 : Value).ownBlock ∧ some k_ ≠ (.slice Ao30 t122.length co30 : Value).ownBlock ∧ k_ ≠ gb101)) (by (with_reducible repeat (first | apply Kd.R_alloc | apply Kd.R_drewN | apply Kd.R_drew)); exact Kd.R_mono HO143.out (fun _ hk => ⟨⟨hk.1, ⟨hk.2.1, hk.2.2.2⟩⟩, hk.2.2.1⟩)) hg hat)
       have n6_ := Aside0.mk (blk_grown (g := gb147) (o := .cells #[.int .i64 0, .int .i64 0, .int .i64 0, .int .i64 0, .int .i64 0, .int .i64 0, .slice none 0 0] 26 (0, 0)) (by (with_reducible repeat (first | refine blk_drewN ?_ _ | refine blk_drew ?_ | refine blk_alloc ?_ _)); exact BK147.out) hg (Kd.R_ne HO133.out BK147.out (by decide)))
       have n7_ := Aside0.mk (hb)
       have n8_ := Aside0.mk (ho)
       clear BK101
       clear HO111
       clear BK114
       clear HO124
       clear BK127
       clear HO143
       clear BK147
       clear HB
       clear HO133
       have BK101 := n0_
       have HO111 := n1_
       have BK114 := n2_
       have HO124 := n3_
       have BK127 := n4_
       have HO143 := n5_
       have BK147 := n6_
       have HB := n7_
       have HO146 := n8_
       clear n0_ n1_ n2_ n3_ n4_ n5_ n6_ n7_ n8_
       clear ho hb hg hat
       obtain ⟨Ao43, co43, eo43⟩ := Kd.R_slice HO146.out
       (first | subst eo43 | (injection eo43 with f1_ f2_ f3_; have f4_ := f1_.symm; have f5_ := f3_.symm; clear f1_ f2_ f3_; subst f4_; subst f5_))
       refine hK.out _ _ ⟨(blk_cell BK114.out 0).trans rfl, (blk_cell BK114.out 1).trans rfl, (blk_cell BK114.out 2).trans rfl, (blk_cell BK114.out 3).trans rfl, (blk_cell BK114.out 4).trans rfl, (blk_cell BK114.out 5).trans rfl, (blk_cell BK114.out 6).trans rfl, (blk_cell BK101.out 0).trans rfl, (blk_cell BK101.out 1).trans rfl, (blk_cell BK101.out 2).trans rfl, (blk_cell BK101.out 3).trans rfl, (blk_cell BK101.out 4).trans rfl, (blk_cell BK101.out 5).trans rfl, (blk_cell BK101.out 6).trans rfl⟩ (fun hHeld => ?_)
       clear hK K
       refine norm_ (a' := ?_) ?_ ?_
       rotate_left
       ·show Act.put _ (some 48) _ = _
        simp only [Act.put, List.setIfInBounds_toArray, List.set_cons_zero, List.set_cons_succ, i64_w, i32_w]
        rfl
       refine pure_ (i := 10) (N := some 49) (v := ?_) (a' := ?_) #[true, true, true, true, true, true, true, true, true, true, true, true, false] rfl rfl (any_of HT_.out (by kernel_rfl)) (fun _ _ _ h => h) (Or.inl ⟨by rfl, ?_⟩) ?_ ?_
       rotate_left
       ·intro w'
        go_simp
        with_reducible rfl
       rotate_left
       ·simp only [Act.put, List.setIfInBounds_toArray, List.set_cons_zero, List.set_cons_succ, i64_w, i32_w]
        rfl
       exact norm_ (by first | (simp only [putAll, Act.put, List.setIfInBounds_toArray, List.set_cons_zero, List.set_cons_succ]; done) | (simp only [putAll, Act.put, List.setIfInBounds_toArray, List.set_cons_zero, List.set_cons_succ]; rfl)) (hJ2_5_7_8_9_11 (v129, v132, .slice Ao42 y141.length co42, .slice Ao43 y144.length co43, gb147) _ ⟨hHeld, (by (with_reducible repeat (first | apply Kd.R_alloc | apply Kd.R_drewN | apply Kd.R_drew)); exact Kd.R_mono HO111.out (fun _ hk => ⟨hk.1.1, ⟨hk.1.2.1, ⟨hk.2, hk.1.2.2⟩⟩⟩)), (by (with_reducible repeat (first | apply Kd.R_alloc | apply Kd.R_drewN | apply Kd.R_drew)); exact Kd.R_mono HO124.out (fun _ hk => ⟨hk.1.1, ⟨hk.1.2.1, ⟨hk.2, hk.1.2.2⟩⟩⟩)), (by (with_reducible repeat (first | apply Kd.R_alloc | apply Kd.R_drewN | apply Kd.R_drew)); exact Kd.R_mono HO143.out (fun _ hk => ⟨hk.1.1, ⟨hk.1.2.1, ⟨hk.2, hk.1.2.2⟩⟩⟩)), (by (with_reducible repeat (first | apply Kd.R_alloc | apply Kd.R_drewN | apply Kd.R_drew)); exact HO146.out), (by (with_reducible repeat (first | refine blk_drewN ?_ _ | refine blk_drew ?_ | refine blk_alloc ?_ _)); exact BK101.out), (by (with_reducible repeat (first | refine blk_drewN ?_ _ | refine blk_drew ?_ | refine blk_alloc ?_ _)); exact BK114.out), (by (with_reducible repeat (first | refine blk_drewN ?_ _ | refine blk_drew ?_ | refine blk_alloc ?_ _)); exact BK127.out), (by (with_reducible repeat (first | refine blk_drewN ?_ _ | refine blk_drew ?_ | refine blk_alloc ?_ _)); exact BK147.out), GW147.out, GE147.out, NB101_147.out, NB147_101.out, NB114_147.out, NB147_114.out, NB127_147.out, NB147_127.out, (by repeat (first | (with_reducible first | exact HB.out | apply below_alloc | apply pw_below_drewN | apply below_drew1 | refine below_set ?_ GE101.out | refine below_set ?_ GE114.out | refine below_set ?_ GE127.out | refine below_set ?_ GE147.out) | exact HB.out))⟩)
     ·skip
      rintro ⟨v129, v132, v142, v145⟩ w42 ⟨hS_, h0_, h1_, h2_, h3_, h4_, h5_, h6_, h7_⟩
      have n0_ : Aside0 (Kd.R k29 29 w42 w.heap.size (fun k_ => some k_ ≠ (.slice Ao30 t122.length co30 : Value).ownBlock ∧ some k_ ≠ (v142 : Value).ownBlock ∧ some k_ ≠ (v145 : Value).ownBlock ∧ k_ ≠ gb101) (.slice Ao22 t109.length co22) t109) := ⟨h0_⟩
      have n1_ : Aside0 (Kd.R k29 29 w42 w.heap.size (fun k_ => some k_ ≠ (.slice Ao22 t109.length co22 : Value).ownBlock ∧ some k_ ≠ (v142 : Value).ownBlock ∧ some k_ ≠ (v145 : Value).ownBlock ∧ k_ ≠ gb101) (.slice Ao30 t122.length co30) t122) := ⟨h1_⟩
      have n2_ : Aside0 (Kd.R k29 29 w42 w.heap.size (fun k_ => some k_ ≠ (.slice Ao22 t109.length co22 : Value).ownBlock ∧ some k_ ≠ (.slice Ao30 t122.length co30 : Value).ownBlock ∧ some k_ ≠ (v145 : Value).ownBlock ∧ k_ ≠ gb101) v142 y141) := ⟨h2_⟩
      have n3_ : Aside0 (Kd.R k29 29 w42 w.heap.size (fun k_ => some k_ ≠ (.slice Ao22 t109.length co22 : Value).ownBlock ∧ some k_ ≠ (.slice Ao30 t122.length co30 : Value).ownBlock ∧ some k_ ≠ (v142 : Value).ownBlock ∧ k_ ≠ gb101) v145 y144) := ⟨h3_⟩
      have n4_ : Aside0 (w42.heap[gb101]? = some (.cells #[.int .i64 a1_0, .int .i64 a1_1, .int .i64 a1_2, .int .i64 a1_3, .string a1_4, .int .i64 a1_5, .int .i64 a1_6] 29 (0, 0))) := ⟨h4_⟩
      have n5_ : Aside0 (w42.heap[gb114]? = some (.cells #[.int .i64 t103, .int .i64 t104, .int .i64 t105, .int .i64 t106, .int .i64 t107, .int .i64 t108, .slice Ao22 t109.length co22] 26 (0, 0))) := ⟨h5_⟩
      have n6_ : Aside0 (w42.heap[gb127]? = some (.cells #[.int .i64 t103, .int .i64 t104, .int .i64 t105, .int .i64 t106, .int .i64 t107, .int .i64 t108, .slice Ao30 t122.length co30] 26 (0, 0))) := ⟨h6_⟩
      have n7_ : Aside0 (Below w.heap.size w w42) := ⟨h7_⟩
      clear HO111
      clear HO124
      clear BK101
      clear BK114
      clear BK127
      clear HB
      clear h0_ h1_ h2_ h3_ h4_ h5_ h6_ h7_
      have HO111 := n0_
      have HO124 := n1_
      have HO143 := n2_
      have HO146 := n3_
      have BK101 := n4_
      have BK114 := n5_
      have BK127 := n6_
      have HB := n7_
      clear n0_ n1_ n2_ n3_ n4_ n5_ n6_ n7_
      have hHeld : w42.cell? ⟨gb114, 0, none⟩ = some (.int .i64 t103) ∧ w42.cell? ⟨gb114, 1, none⟩ = some (.int .i64 t104) ∧ w42.cell? ⟨gb114, 2, none⟩ = some (.int .i64 t105) ∧ w42.cell? ⟨gb114, 3, none⟩ = some (.int .i64 t106) ∧ w42.cell? ⟨gb114, 4, none⟩ = some (.int .i64 t107) ∧ w42.cell? ⟨gb114, 5, none⟩ = some (.int .i64 t108) ∧ w42.cell? ⟨gb114, 6, none⟩ = some (.slice Ao22 t109.length co22) ∧ w42.cell? ⟨gb101, 0, none⟩ = some (.int .i64 a1_0) ∧ w42.cell? ⟨gb101, 1, none⟩ = some (.int .i64 a1_1) ∧ w42.cell? ⟨gb101, 2, none⟩ = some (.int .i64 a1_2) ∧ w42.cell? ⟨gb101, 3, none⟩ = some (.int .i64 a1_3) ∧ w42.cell? ⟨gb101, 4, none⟩ = some (.string a1_4) ∧ w42.cell? ⟨gb101, 5, none⟩ = some (.int .i64 a1_5) ∧ w42.cell? ⟨gb101, 6, none⟩ = some (.int .i64 a1_6) := hS_
      obtain ⟨Ao43, co43, eo43⟩ := Kd.R_slice HO146.out
      (first | subst eo43 | (injection eo43 with f1_ f2_ f3_; have f4_ := f1_.symm; have f5_ := f3_.symm; clear f1_ f2_ f3_; subst f4_; subst f5_))
      refine norm_ (a' := ?_) ?_ ?_
      rotate_left
      ·simp only [putAll, Act.put, List.setIfInBounds_toArray, List.set_cons_zero, List.set_cons_succ]
       rfl
      refine one_ (i := 11) (N := some 12) #[true, true, true, true, true, true, true, true, true, true, true, true, false] rfl rfl (one_of HT_.out (by kernel_rfl)) (by decide) (fun K hK => ?_)
      refine box_step ?hg (N := 12) ?hd (cs := #[.int .i64 0, .int .i64 0, .int .i64 0, .int .i64 0, .int .i64 0, .int .i64 0, .slice none 0 0]) (t := 26) ?hr ?_; (case hd => rfl); (case hg => rfl); (case hr => first | (go_simp; done) | (go_simp; rfl))
      intro gb147 hg w44 hbox hb
      have n0_ := Aside0.mk (Kd.R_below (by (with_reducible repeat (first | apply Kd.R_alloc | apply Kd.R_drewN | apply Kd.R_drew)); exact HO111.out) hb)
      have n1_ := Aside0.mk (Kd.R_below (by (with_reducible repeat (first | apply Kd.R_alloc | apply Kd.R_drewN | apply Kd.R_drew)); exact HO124.out) hb)
      have n2_ := Aside0.mk (Kd.R_below (by (with_reducible repeat (first | apply Kd.R_alloc | apply Kd.R_drewN | apply Kd.R_drew)); exact HO143.out) hb)
      have n3_ := Aside0.mk (Kd.R_below (by (with_reducible repeat (first | apply Kd.R_alloc | apply Kd.R_drewN | apply Kd.R_drew)); exact HO146.out) hb)
      have n4_ := Aside0.mk (blk_below (g := gb101) (o := .cells #[.int .i64 a1_0, .int .i64 a1_1, .int .i64 a1_2, .int .i64 a1_3, .string a1_4, .int .i64 a1_5, .int .i64 a1_6] 29 (0, 0)) (by (with_reducible repeat (first | refine blk_drewN ?_ _ | refine blk_drew ?_ | refine blk_alloc ?_ _)); exact BK101.out) hb)
      have n5_ := Aside0.mk (blk_below (g := gb114) (o := .cells #[.int .i64 t103, .int .i64 t104, .int .i64 t105, .int .i64 t106, .int .i64 t107, .int .i64 t108, .slice Ao22 t109.length co22] 26 (0, 0)) (by (with_reducible repeat (first | refine blk_drewN ?_ _ | refine blk_drew ?_ | refine blk_alloc ?_ _)); exact BK114.out) hb)
      have n6_ := Aside0.mk (blk_below (g := gb127) (o := .cells #[.int .i64 t103, .int .i64 t104, .int .i64 t105, .int .i64 t106, .int .i64 t107, .int .i64 t108, .slice Ao30 t122.length co30] 26 (0, 0)) (by (with_reducible repeat (first | refine blk_drewN ?_ _ | refine blk_drew ?_ | refine blk_alloc ?_ _)); exact BK127.out) hb)
      have n7_ := Aside0.mk (below_step (by repeat (first | (with_reducible first | exact HB.out | apply below_alloc | apply pw_below_drewN | apply below_drew1 | refine below_set ?_ GE101.out | refine below_set ?_ GE114.out | refine below_set ?_ GE127.out) | exact HB.out)) hb)
      have n8_ := Aside0.mk (hbox)
      have n9_ := Aside0.mk ((by rw [hg]; exact (below_size (by repeat (first | (with_reducible first | exact HB.out | apply below_alloc | apply pw_below_drewN | apply below_drew1 | refine below_set ?_ GE101.out | refine below_set ?_ GE114.out | refine below_set ?_ GE127.out) | exact HB.out))) : w.heap.size ≤ gb147))
      have n10_ := Aside0.mk ((by rw [hg]; exact (below_size (by repeat (first | (with_reducible first | exact HB.out | apply below_alloc | apply pw_below_drewN | apply below_drew1 | refine below_set ?_ GE101.out | refine below_set ?_ GE114.out | refine below_set ?_ GE127.out) | exact HB.out))) : w.heap.size ≤ gb147))
      have n11_ := Aside0.mk ((by rw [hg]; exact Nat.ne_of_lt (blk_lt (g := gb101) (o := .cells #[.int .i64 a1_0, .int .i64 a1_1, .int .i64 a1_2, .int .i64 a1_3, .string a1_4, .int .i64 a1_5, .int .i64 a1_6] 29 (0, 0)) (by (with_reducible repeat (first | refine blk_drewN ?_ _ | refine blk_drew ?_ | refine blk_alloc ?_ _)); exact BK101.out)) : gb101 ≠ gb147))
      have n12_ := Aside0.mk ((by rw [hg]; exact Nat.ne_of_gt (blk_lt (g := gb101) (o := .cells #[.int .i64 a1_0, .int .i64 a1_1, .int .i64 a1_2, .int .i64 a1_3, .string a1_4, .int .i64 a1_5, .int .i64 a1_6] 29 (0, 0)) (by (with_reducible repeat (first | refine blk_drewN ?_ _ | refine blk_drew ?_ | refine blk_alloc ?_ _)); exact BK101.out)) : gb147 ≠ gb101))
      have n13_ := Aside0.mk ((by rw [hg]; exact Nat.ne_of_lt (blk_lt (g := gb114) (o := .cells #[.int .i64 t103, .int .i64 t104, .int .i64 t105, .int .i64 t106, .int .i64 t107, .int .i64 t108, .slice Ao22 t109.length co22] 26 (0, 0)) (by (with_reducible repeat (first | refine blk_drewN ?_ _ | refine blk_drew ?_ | refine blk_alloc ?_ _)); exact BK114.out)) : gb114 ≠ gb147))
      have n14_ := Aside0.mk ((by rw [hg]; exact Nat.ne_of_gt (blk_lt (g := gb114) (o := .cells #[.int .i64 t103, .int .i64 t104, .int .i64 t105, .int .i64 t106, .int .i64 t107, .int .i64 t108, .slice Ao22 t109.length co22] 26 (0, 0)) (by (with_reducible repeat (first | refine blk_drewN ?_ _ | refine blk_drew ?_ | refine blk_alloc ?_ _)); exact BK114.out)) : gb147 ≠ gb114))
      have n15_ := Aside0.mk ((by rw [hg]; exact Nat.ne_of_lt (blk_lt (g := gb127) (o := .cells #[.int .i64 t103, .int .i64 t104, .int .i64 t105, .int .i64 t106, .int .i64 t107, .int .i64 t108, .slice Ao30 t122.length co30] 26 (0, 0)) (by (with_reducible repeat (first | refine blk_drewN ?_ _ | refine blk_drew ?_ | refine blk_alloc ?_ _)); exact BK127.out)) : gb127 ≠ gb147))
      have n16_ := Aside0.mk ((by rw [hg]; exact Nat.ne_of_gt (blk_lt (g := gb127) (o := .cells #[.int .i64 t103, .int .i64 t104, .int .i64 t105, .int .i64 t106, .int .i64 t107, .int .i64 t108, .slice Ao30 t122.length co30] 26 (0, 0)) (by (with_reducible repeat (first | refine blk_drewN ?_ _ | refine blk_drew ?_ | refine blk_alloc ?_ _)); exact BK127.out)) : gb147 ≠ gb127))
      clear HO111
      clear HO124
      clear HO143
      clear HO146
      clear BK101
      clear BK114
      clear BK127
      clear HB
      have HO111 := n0_
      have HO124 := n1_
      have HO143 := n2_
      have HO146 := n3_
      have BK101 := n4_
      have BK114 := n5_
      have BK127 := n6_
      have HB := n7_
      have BK147 := n8_
      have GW147 := n9_
      have GE147 := n10_
      have NB101_147 := n11_
      have NB147_101 := n12_
      have NB114_147 := n13_
      have NB147_114 := n14_
      have NB127_147 := n15_
      have NB147_127 := n16_
      clear n0_ n1_ n2_ n3_ n4_ n5_ n6_ n7_ n8_ n9_ n10_ n11_ n12_ n13_ n14_ n15_ n16_
      clear hb hbox hg
      refine hK.out _ _ ⟨(blk_cell BK114.out 0).trans rfl, (blk_cell BK114.out 1).trans rfl, (blk_cell BK114.out 2).trans rfl, (blk_cell BK114.out 3).trans rfl, (blk_cell BK114.out 4).trans rfl, (blk_cell BK114.out 5).trans rfl, (blk_cell BK114.out 6).trans rfl, (blk_cell BK101.out 0).trans rfl, (blk_cell BK101.out 1).trans rfl, (blk_cell BK101.out 2).trans rfl, (blk_cell BK101.out 3).trans rfl, (blk_cell BK101.out 4).trans rfl, (blk_cell BK101.out 5).trans rfl, (blk_cell BK101.out 6).trans rfl⟩ (fun hHeld => ?_)
      clear hK K
      refine norm_ (a' := ?_) ?_ ?_
      rotate_left
      ·show Act.put _ (some 12) _ = _
       simp only [Act.put, List.setIfInBounds_toArray, List.set_cons_zero, List.set_cons_succ, i64_w, i32_w]
       rfl
      exact norm_ (by first | (simp only [putAll, Act.put, List.setIfInBounds_toArray, List.set_cons_zero, List.set_cons_succ]; done) | (simp only [putAll, Act.put, List.setIfInBounds_toArray, List.set_cons_zero, List.set_cons_succ]; rfl)) (hJ2_5_7_8_9_11 (v129, v132, v142, .slice Ao43 y144.length co43, gb147) _ ⟨hHeld, (by (with_reducible repeat (first | apply Kd.R_alloc | apply Kd.R_drewN | apply Kd.R_drew)); exact HO111.out), (by (with_reducible repeat (first | apply Kd.R_alloc | apply Kd.R_drewN | apply Kd.R_drew)); exact HO124.out), (by (with_reducible repeat (first | apply Kd.R_alloc | apply Kd.R_drewN | apply Kd.R_drew)); exact HO143.out), (by (with_reducible repeat (first | apply Kd.R_alloc | apply Kd.R_drewN | apply Kd.R_drew)); exact HO146.out), (by (with_reducible repeat (first | refine blk_drewN ?_ _ | refine blk_drew ?_ | refine blk_alloc ?_ _)); exact BK101.out), (by (with_reducible repeat (first | refine blk_drewN ?_ _ | refine blk_drew ?_ | refine blk_alloc ?_ _)); exact BK114.out), (by (with_reducible repeat (first | refine blk_drewN ?_ _ | refine blk_drew ?_ | refine blk_alloc ?_ _)); exact BK127.out), (by (with_reducible repeat (first | refine blk_drewN ?_ _ | refine blk_drew ?_ | refine blk_alloc ?_ _)); exact BK147.out), GW147.out, GE147.out, NB101_147.out, NB147_101.out, NB114_147.out, NB147_114.out, NB127_147.out, NB147_127.out, (by repeat (first | (with_reducible first | exact HB.out | apply below_alloc | apply pw_below_drewN | apply below_drew1 | refine below_set ?_ GE101.out | refine below_set ?_ GE114.out | refine below_set ?_ GE127.out | refine below_set ?_ GE147.out) | exact HB.out))⟩)
    rintro ⟨v129, v132, v142, v145, gb147⟩ w43 ⟨hS_, h0_, h1_, h2_, h3_, h4_, h5_, h6_, h7_, h8_, h9_, h10_, h11_, h12_, h13_, h14_, h15_, h16_⟩
    have n0_ : Aside0 (Kd.R k29 29 w43 w.heap.size (fun k_ => some k_ ≠ (.slice Ao30 t122.length co30 : Value).ownBlock ∧ some k_ ≠ (v142 : Value).ownBlock ∧ some k_ ≠ (v145 : Value).ownBlock ∧ k_ ≠ gb101) (.slice Ao22 t109.length co22) t109) := ⟨h0_⟩
    have n1_ : Aside0 (Kd.R k29 29 w43 w.heap.size (fun k_ => some k_ ≠ (.slice Ao22 t109.length co22 : Value).ownBlock ∧ some k_ ≠ (v142 : Value).ownBlock ∧ some k_ ≠ (v145 : Value).ownBlock ∧ k_ ≠ gb101) (.slice Ao30 t122.length co30) t122) := ⟨h1_⟩
    have n2_ : Aside0 (Kd.R k29 29 w43 w.heap.size (fun k_ => some k_ ≠ (.slice Ao22 t109.length co22 : Value).ownBlock ∧ some k_ ≠ (.slice Ao30 t122.length co30 : Value).ownBlock ∧ some k_ ≠ (v145 : Value).ownBlock ∧ k_ ≠ gb101) v142 y141) := ⟨h2_⟩
    have n3_ : Aside0 (Kd.R k29 29 w43 w.heap.size (fun k_ => some k_ ≠ (.slice Ao22 t109.length co22 : Value).ownBlock ∧ some k_ ≠ (.slice Ao30 t122.length co30 : Value).ownBlock ∧ some k_ ≠ (v142 : Value).ownBlock ∧ k_ ≠ gb101) v145 y144) := ⟨h3_⟩
    have n4_ : Aside0 (w43.heap[gb101]? = some (.cells #[.int .i64 a1_0, .int .i64 a1_1, .int .i64 a1_2, .int .i64 a1_3, .string a1_4, .int .i64 a1_5, .int .i64 a1_6] 29 (0, 0))) := ⟨h4_⟩
    have n5_ : Aside0 (w43.heap[gb114]? = some (.cells #[.int .i64 t103, .int .i64 t104, .int .i64 t105, .int .i64 t106, .int .i64 t107, .int .i64 t108, .slice Ao22 t109.length co22] 26 (0, 0))) := ⟨h5_⟩
    have n6_ : Aside0 (w43.heap[gb127]? = some (.cells #[.int .i64 t103, .int .i64 t104, .int .i64 t105, .int .i64 t106, .int .i64 t107, .int .i64 t108, .slice Ao30 t122.length co30] 26 (0, 0))) := ⟨h6_⟩
    have n7_ : Aside0 (w43.heap[gb147]? = some (.cells #[.int .i64 0, .int .i64 0, .int .i64 0, .int .i64 0, .int .i64 0, .int .i64 0, .slice none 0 0] 26 (0, 0))) := ⟨h7_⟩
    have n8_ : Aside0 (w.heap.size ≤ gb147) := ⟨h8_⟩
    have n9_ : Aside0 (w.heap.size ≤ gb147) := ⟨h9_⟩
    have n10_ : Aside0 (gb101 ≠ gb147) := ⟨h10_⟩
    have n11_ : Aside0 (gb147 ≠ gb101) := ⟨h11_⟩
    have n12_ : Aside0 (gb114 ≠ gb147) := ⟨h12_⟩
    have n13_ : Aside0 (gb147 ≠ gb114) := ⟨h13_⟩
    have n14_ : Aside0 (gb127 ≠ gb147) := ⟨h14_⟩
    have n15_ : Aside0 (gb147 ≠ gb127) := ⟨h15_⟩
    have n16_ : Aside0 (Below w.heap.size w w43) := ⟨h16_⟩
    clear HO111
    clear HO124
    clear BK101
    clear BK114
    clear BK127
    clear HB
    clear h0_ h1_ h2_ h3_ h4_ h5_ h6_ h7_ h8_ h9_ h10_ h11_ h12_ h13_ h14_ h15_ h16_
    have HO111 := n0_
    have HO124 := n1_
    have HO143 := n2_
    have HO146 := n3_
    have BK101 := n4_
    have BK114 := n5_
    have BK127 := n6_
    have BK147 := n7_
    have GW147 := n8_
    have GE147 := n9_
    have NB101_147 := n10_
    have NB147_101 := n11_
    have NB114_147 := n12_
    have NB147_114 := n13_
    have NB127_147 := n14_
    have NB147_127 := n15_
    have HB := n16_
    clear n0_ n1_ n2_ n3_ n4_ n5_ n6_ n7_ n8_ n9_ n10_ n11_ n12_ n13_ n14_ n15_ n16_
    have hHeld : w43.cell? ⟨gb114, 0, none⟩ = some (.int .i64 t103) ∧ w43.cell? ⟨gb114, 1, none⟩ = some (.int .i64 t104) ∧ w43.cell? ⟨gb114, 2, none⟩ = some (.int .i64 t105) ∧ w43.cell? ⟨gb114, 3, none⟩ = some (.int .i64 t106) ∧ w43.cell? ⟨gb114, 4, none⟩ = some (.int .i64 t107) ∧ w43.cell? ⟨gb114, 5, none⟩ = some (.int .i64 t108) ∧ w43.cell? ⟨gb114, 6, none⟩ = some (.slice Ao22 t109.length co22) ∧ w43.cell? ⟨gb101, 0, none⟩ = some (.int .i64 a1_0) ∧ w43.cell? ⟨gb101, 1, none⟩ = some (.int .i64 a1_1) ∧ w43.cell? ⟨gb101, 2, none⟩ = some (.int .i64 a1_2) ∧ w43.cell? ⟨gb101, 3, none⟩ = some (.int .i64 a1_3) ∧ w43.cell? ⟨gb101, 4, none⟩ = some (.string a1_4) ∧ w43.cell? ⟨gb101, 5, none⟩ = some (.int .i64 a1_5) ∧ w43.cell? ⟨gb101, 6, none⟩ = some (.int .i64 a1_6) := hS_
    obtain ⟨Ao44, co44, eo44⟩ := Kd.R_slice HO146.out
    (first | subst eo44 | (injection eo44 with f1_ f2_ f3_; have f4_ := f1_.symm; have f5_ := f3_.symm; clear f1_ f2_ f3_; subst f4_; subst f5_))
    refine norm_ (a' := ?_) ?_ ?_
    rotate_left
    ·simp only [putAll, Act.put, List.setIfInBounds_toArray, List.set_cons_zero, List.set_cons_succ]
     rfl
    refine one_ (i := 12) (N := none) #[true, true, true, true, true, true, true, true, true, true, true, true, true] rfl rfl (one_of HT_.out (by kernel_rfl)) (by decide) (fun K hK => ?_)
    have hs45 : w43.cell? ⟨gb147, 0, none⟩ = some (.int .i64 0) := (blk_cell BK147.out 0).trans rfl
    have hfs45 := blk_frozen BK147.out 0
    have hns45_0 := NB101_147.out
    have hns45_1 := NB114_147.out
    have hns45_2 := NB127_147.out
    have hms45_0 := NB147_101.out
    have hms45_1 := NB147_114.out
    have hms45_2 := NB147_127.out
    have hs46 : w43.cell? ⟨gb147, 1, none⟩ = some (.int .i64 0) := (blk_cell BK147.out 1).trans rfl
    have hfs46 := blk_frozen BK147.out 1
    have hns46_0 := NB101_147.out
    have hns46_1 := NB114_147.out
    have hns46_2 := NB127_147.out
    have hms46_0 := NB147_101.out
    have hms46_1 := NB147_114.out
    have hms46_2 := NB147_127.out
    have hs47 : w43.cell? ⟨gb147, 2, none⟩ = some (.int .i64 0) := (blk_cell BK147.out 2).trans rfl
    have hfs47 := blk_frozen BK147.out 2
    have hns47_0 := NB101_147.out
    have hns47_1 := NB114_147.out
    have hns47_2 := NB127_147.out
    have hms47_0 := NB147_101.out
    have hms47_1 := NB147_114.out
    have hms47_2 := NB147_127.out
    have hs48 : w43.cell? ⟨gb147, 3, none⟩ = some (.int .i64 0) := (blk_cell BK147.out 3).trans rfl
    have hfs48 := blk_frozen BK147.out 3
    have hns48_0 := NB101_147.out
    have hns48_1 := NB114_147.out
    have hns48_2 := NB127_147.out
    have hms48_0 := NB147_101.out
    have hms48_1 := NB147_114.out
    have hms48_2 := NB147_127.out
    have hs49 : w43.cell? ⟨gb147, 4, none⟩ = some (.int .i64 0) := (blk_cell BK147.out 4).trans rfl
    have hfs49 := blk_frozen BK147.out 4
    have hns49_0 := NB101_147.out
    have hns49_1 := NB114_147.out
    have hns49_2 := NB127_147.out
    have hms49_0 := NB147_101.out
    have hms49_1 := NB147_114.out
    have hms49_2 := NB147_127.out
    have hs50 : w43.cell? ⟨gb147, 5, none⟩ = some (.int .i64 0) := (blk_cell BK147.out 5).trans rfl
    have hfs50 := blk_frozen BK147.out 5
    have hns50_0 := NB101_147.out
    have hns50_1 := NB114_147.out
    have hns50_2 := NB127_147.out
    have hms50_0 := NB147_101.out
    have hms50_1 := NB147_114.out
    have hms50_2 := NB147_127.out
    have hs51 : w43.cell? ⟨gb147, 6, none⟩ = some (.slice none 0 0) := (blk_cell BK147.out 6).trans rfl
    have hfs51 := blk_frozen BK147.out 6
    have hns51_0 := NB101_147.out
    have hns51_1 := NB114_147.out
    have hns51_2 := NB127_147.out
    have hms51_0 := NB147_101.out
    have hms51_1 := NB147_114.out
    have hms51_2 := NB147_127.out
    refine skip_ (w1 := ?_) (by rfl) rfl ?_ ?_
    rotate_left
    ·go_simp
     rfl
    refine hK.out _ _ ⟨((cell_far (p := ⟨gb147, _, none⟩) NB114_147.out _).trans (((cell_far (p := ⟨gb147, _, none⟩) NB114_147.out _).trans (((cell_far (p := ⟨gb147, _, none⟩) NB114_147.out _).trans (((cell_far (p := ⟨gb147, _, none⟩) NB114_147.out _).trans (((cell_far (p := ⟨gb147, _, none⟩) NB114_147.out _).trans (((cell_far (p := ⟨gb147, _, none⟩) NB114_147.out _).trans (((cell_far (p := ⟨gb147, _, none⟩) NB114_147.out _).trans (hHeld.1)))))))))))))), ((cell_far (p := ⟨gb147, _, none⟩) NB114_147.out _).trans (((cell_far (p := ⟨gb147, _, none⟩) NB114_147.out _).trans (((cell_far (p := ⟨gb147, _, none⟩) NB114_147.out _).trans (((cell_far (p := ⟨gb147, _, none⟩) NB114_147.out _).trans (((cell_far (p := ⟨gb147, _, none⟩) NB114_147.out _).trans (((cell_far (p := ⟨gb147, _, none⟩) NB114_147.out _).trans (((cell_far (p := ⟨gb147, _, none⟩) NB114_147.out _).trans (hHeld.2.1)))))))))))))), ((cell_far (p := ⟨gb147, _, none⟩) NB114_147.out _).trans (((cell_far (p := ⟨gb147, _, none⟩) NB114_147.out _).trans (((cell_far (p := ⟨gb147, _, none⟩) NB114_147.out _).trans (((cell_far (p := ⟨gb147, _, none⟩) NB114_147.out _).trans (((cell_far (p := ⟨gb147, _, none⟩) NB114_147.out _).trans (((cell_far (p := ⟨gb147, _, none⟩) NB114_147.out _).trans (((cell_far (p := ⟨gb147, _, none⟩) NB114_147.out _).trans (hHeld.2.2.1)))))))))))))), ((cell_far (p := ⟨gb147, _, none⟩) NB114_147.out _).trans (((cell_far (p := ⟨gb147, _, none⟩) NB114_147.out _).trans (((cell_far (p := ⟨gb147, _, none⟩) NB114_147.out _).trans (((cell_far (p := ⟨gb147, _, none⟩) NB114_147.out _).trans (((cell_far (p := ⟨gb147, _, none⟩) NB114_147.out _).trans (((cell_far (p := ⟨gb147, _, none⟩) NB114_147.out _).trans (((cell_far (p := ⟨gb147, _, none⟩) NB114_147.out _).trans (hHeld.2.2.2.1)))))))))))))), ((cell_far (p := ⟨gb147, _, none⟩) NB114_147.out _).trans (((cell_far (p := ⟨gb147, _, none⟩) NB114_147.out _).trans (((cell_far (p := ⟨gb147, _, none⟩) NB114_147.out _).trans (((cell_far (p := ⟨gb147, _, none⟩) NB114_147.out _).trans (((cell_far (p := ⟨gb147, _, none⟩) NB114_147.out _).trans (((cell_far (p := ⟨gb147, _, none⟩) NB114_147.out _).trans (((cell_far (p := ⟨gb147, _, none⟩) NB114_147.out _).trans (hHeld.2.2.2.2.1)))))))))))))), ((cell_far (p := ⟨gb147, _, none⟩) NB114_147.out _).trans (((cell_far (p := ⟨gb147, _, none⟩) NB114_147.out _).trans (((cell_far (p := ⟨gb147, _, none⟩) NB114_147.out _).trans (((cell_far (p := ⟨gb147, _, none⟩) NB114_147.out _).trans (((cell_far (p := ⟨gb147, _, none⟩) NB114_147.out _).trans (((cell_far (p := ⟨gb147, _, none⟩) NB114_147.out _).trans (((cell_far (p := ⟨gb147, _, none⟩) NB114_147.out _).trans (hHeld.2.2.2.2.2.1)))))))))))))), ((cell_far (p := ⟨gb147, _, none⟩) NB114_147.out _).trans (((cell_far (p := ⟨gb147, _, none⟩) NB114_147.out _).trans (((cell_far (p := ⟨gb147, _, none⟩) NB114_147.out _).trans (((cell_far (p := ⟨gb147, _, none⟩) NB114_147.out _).trans (((cell_far (p := ⟨gb147, _, none⟩) NB114_147.out _).trans (((cell_far (p := ⟨gb147, _, none⟩) NB114_147.out _).trans (((cell_far (p := ⟨gb147, _, none⟩) NB114_147.out _).trans (hHeld.2.2.2.2.2.2.1)))))))))))))), ((cell_far (p := ⟨gb147, _, none⟩) NB101_147.out _).trans (((cell_far (p := ⟨gb147, _, none⟩) NB101_147.out _).trans (((cell_far (p := ⟨gb147, _, none⟩) NB101_147.out _).trans (((cell_far (p := ⟨gb147, _, none⟩) NB101_147.out _).trans (((cell_far (p := ⟨gb147, _, none⟩) NB101_147.out _).trans (((cell_far (p := ⟨gb147, _, none⟩) NB101_147.out _).trans (((cell_far (p := ⟨gb147, _, none⟩) NB101_147.out _).trans (hHeld.2.2.2.2.2.2.2.1)))))))))))))), ((cell_far (p := ⟨gb147, _, none⟩) NB101_147.out _).trans (((cell_far (p := ⟨gb147, _, none⟩) NB101_147.out _).trans (((cell_far (p := ⟨gb147, _, none⟩) NB101_147.out _).trans (((cell_far (p := ⟨gb147, _, none⟩) NB101_147.out _).trans (((cell_far (p := ⟨gb147, _, none⟩) NB101_147.out _).trans (((cell_far (p := ⟨gb147, _, none⟩) NB101_147.out _).trans (((cell_far (p := ⟨gb147, _, none⟩) NB101_147.out _).trans (hHeld.2.2.2.2.2.2.2.2.1)))))))))))))), ((cell_far (p := ⟨gb147, _, none⟩) NB101_147.out _).trans (((cell_far (p := ⟨gb147, _, none⟩) NB101_147.out _).trans (((cell_far (p := ⟨gb147, _, none⟩) NB101_147.out _).trans (((cell_far (p := ⟨gb147, _, none⟩) NB101_147.out _).trans (((cell_far (p := ⟨gb147, _, none⟩) NB101_147.out _).trans (((cell_far (p := ⟨gb147, _, none⟩) NB101_147.out _).trans (((cell_far (p := ⟨gb147, _, none⟩) NB101_147.out _).trans (hHeld.2.2.2.2.2.2.2.2.2.1)))))))))))))), ((cell_far (p := ⟨gb147, _, none⟩) NB101_147.out _).trans (((cell_far (p := ⟨gb147, _, none⟩) NB101_147.out _).trans (((cell_far (p := ⟨gb147, _, none⟩) NB101_147.out _).trans (((cell_far (p := ⟨gb147, _, none⟩) NB101_147.out _).trans (((cell_far (p := ⟨gb147, _, none⟩) NB101_147.out _).trans (((cell_far (p := ⟨gb147, _, none⟩) NB101_147.out _).trans (((cell_far (p := ⟨gb147, _, none⟩) NB101_147.out _).trans (hHeld.2.2.2.2.2.2.2.2.2.2.1)))))))))))))), ((cell_far (p := ⟨gb147, _, none⟩) NB101_147.out _).trans (((cell_far (p := ⟨gb147, _, none⟩) NB101_147.out _).trans (((cell_far (p := ⟨gb147, _, none⟩) NB101_147.out _).trans (((cell_far (p := ⟨gb147, _, none⟩) NB101_147.out _).trans (((cell_far (p := ⟨gb147, _, none⟩) NB101_147.out _).trans (((cell_far (p := ⟨gb147, _, none⟩) NB101_147.out _).trans (((cell_far (p := ⟨gb147, _, none⟩) NB101_147.out _).trans (hHeld.2.2.2.2.2.2.2.2.2.2.2.1)))))))))))))), ((cell_far (p := ⟨gb147, _, none⟩) NB101_147.out _).trans (((cell_far (p := ⟨gb147, _, none⟩) NB101_147.out _).trans (((cell_far (p := ⟨gb147, _, none⟩) NB101_147.out _).trans (((cell_far (p := ⟨gb147, _, none⟩) NB101_147.out _).trans (((cell_far (p := ⟨gb147, _, none⟩) NB101_147.out _).trans (((cell_far (p := ⟨gb147, _, none⟩) NB101_147.out _).trans (((cell_far (p := ⟨gb147, _, none⟩) NB101_147.out _).trans (hHeld.2.2.2.2.2.2.2.2.2.2.2.2.1)))))))))))))), ((cell_far (p := ⟨gb147, _, none⟩) NB101_147.out _).trans (((cell_far (p := ⟨gb147, _, none⟩) NB101_147.out _).trans (((cell_far (p := ⟨gb147, _, none⟩) NB101_147.out _).trans (((cell_far (p := ⟨gb147, _, none⟩) NB101_147.out _).trans (((cell_far (p := ⟨gb147, _, none⟩) NB101_147.out _).trans (((cell_far (p := ⟨gb147, _, none⟩) NB101_147.out _).trans (((cell_far (p := ⟨gb147, _, none⟩) NB101_147.out _).trans (hHeld.2.2.2.2.2.2.2.2.2.2.2.2.2))))))))))))))⟩ (fun hHeld => ?_)
    clear hK K
    refine done_ (done_of HT_.out (by kernel_rfl)) ?_
    go_upto_region 8 with (fail)
    have hy := HY.out
    subst hy
    have m0 := Aside0.mk (R_set7 HO111.out BK147.out (.int .i64 t103) (.int .i64 t104) (.int .i64 t105) (.int .i64 t106) (.int .i64 t107) (.int .i64 t108) (.slice Ao44 y144.length co44))
    have m1 := Aside0.mk (R_set7 HO124.out BK147.out (.int .i64 t103) (.int .i64 t104) (.int .i64 t105) (.int .i64 t106) (.int .i64 t107) (.int .i64 t108) (.slice Ao44 y144.length co44))
    have m2 := Aside0.mk (R_set7 HO146.out BK147.out (.int .i64 t103) (.int .i64 t104) (.int .i64 t105) (.int .i64 t106) (.int .i64 t107) (.int .i64 t108) (.slice Ao44 y144.length co44))
    have m3 := Aside0.mk (far_set7 BK114.out NB114_147.out (.int .i64 t103) (.int .i64 t104) (.int .i64 t105) (.int .i64 t106) (.int .i64 t107) (.int .i64 t108) (.slice Ao44 y144.length co44))
    have m4 := Aside0.mk (far_set7 BK127.out NB127_147.out (.int .i64 t103) (.int .i64 t104) (.int .i64 t105) (.int .i64 t106) (.int .i64 t107) (.int .i64 t108) (.slice Ao44 y144.length co44))
    have m5 := Aside0.mk (blk_set7 BK147.out (.int .i64 t103) (.int .i64 t104) (.int .i64 t105) (.int .i64 t106) (.int .i64 t107) (.int .i64 t108) (.slice Ao44 y144.length co44))
    have m6 := Aside0.mk (below_set7 HB.out GE147.out (.int .i64 t103) (.int .i64 t104) (.int .i64 t105) (.int .i64 t106) (.int .i64 t107) (.int .i64 t108) (.slice Ao44 y144.length co44))
    generalize (((((((w43.setCell ⟨gb147, 0, none⟩ (.int .i64 t103)).setCell ⟨gb147, 1, none⟩ (.int .i64 t104)).setCell ⟨gb147, 2, none⟩ (.int .i64 t105)).setCell ⟨gb147, 3, none⟩ (.int .i64 t106)).setCell ⟨gb147, 4, none⟩ (.int .i64 t107)).setCell ⟨gb147, 5, none⟩ (.int .i64 t108)).setCell ⟨gb147, 6, none⟩ (.slice Ao44 y144.length co44)) = w44 at m0 m1 m2 m3 m4 m5 m6 ⊢
    clear HO111 HO124 HO143 HO146 BK101 BK114 BK127 BK147 HB HT_ HW_ hS_ hHeld
    clear hs45 hfs45 hs46 hfs46 hs47 hfs47 hs48 hfs48 hs49 hfs49 hs50 hfs50 hs51 hfs51 hns45_0 hms45_0 hns45_1 hms45_1 hns45_2 hms45_2 hns46_0 hms46_0 hns46_1 hms46_1 hns46_2 hms46_2 hns47_0 hms47_0 hns47_1 hms47_1 hns47_2 hms47_2 hns48_0 hms48_0 hns48_1 hms48_1 hns48_2 hms48_2 hns49_0 hms49_0 hns49_1 hms49_1 hns49_2 hms49_2 hns50_0 hms50_0 hns50_1 hms50_1 hns50_2 hms50_2 hns51_0 hms51_0 hns51_1 hms51_1 hns51_2 hms51_2
    have q0 := Aside0.mk (Kd.R_mono (ok' := fun _ => True) m0.out (fun _ _ => trivial))
    have q1 := Aside0.mk (Kd.R_mono (ok' := fun _ => True) m1.out (fun _ _ => trivial))
    have q2 := Aside0.mk (Kd.R_mono (ok' := fun _ => True) m2.out (fun _ _ => trivial))
    clear m0 m1 m2 HY Ny128 Ny131 Ny141 Ny144 A13 LMc12 LMc14 hu26 hu23 hu29
    have gc0 : w44.cell? ⟨gb127, 0, none⟩ = some (.int .i64 t103) := by rw [Lib.cell_of_heap m4.out]; rfl
    have gc1 : w44.cell? ⟨gb127, 1, none⟩ = some (.int .i64 t104) := by rw [Lib.cell_of_heap m4.out]; rfl
    have gc2 : w44.cell? ⟨gb127, 2, none⟩ = some (.int .i64 t105) := by rw [Lib.cell_of_heap m4.out]; rfl
    have gc3 : w44.cell? ⟨gb127, 3, none⟩ = some (.int .i64 t106) := by rw [Lib.cell_of_heap m4.out]; rfl
    have gc4 : w44.cell? ⟨gb127, 4, none⟩ = some (.int .i64 t107) := by rw [Lib.cell_of_heap m4.out]; rfl
    have gc5 : w44.cell? ⟨gb127, 5, none⟩ = some (.int .i64 t108) := by rw [Lib.cell_of_heap m4.out]; rfl
    have gc6 : w44.cell? ⟨gb127, 6, none⟩ = some (.slice Ao30 y144.length co30) := by rw [Lib.cell_of_heap m4.out]; rfl
    have wc0 : w44.cell? ⟨gb147, 0, none⟩ = some (.int .i64 t103) := by rw [Lib.cell_of_heap m5.out]; rfl
    have wc1 : w44.cell? ⟨gb147, 1, none⟩ = some (.int .i64 t104) := by rw [Lib.cell_of_heap m5.out]; rfl
    have wc2 : w44.cell? ⟨gb147, 2, none⟩ = some (.int .i64 t105) := by rw [Lib.cell_of_heap m5.out]; rfl
    have wc3 : w44.cell? ⟨gb147, 3, none⟩ = some (.int .i64 t106) := by rw [Lib.cell_of_heap m5.out]; rfl
    have wc4 : w44.cell? ⟨gb147, 4, none⟩ = some (.int .i64 t107) := by rw [Lib.cell_of_heap m5.out]; rfl
    have wc5 : w44.cell? ⟨gb147, 5, none⟩ = some (.int .i64 t108) := by rw [Lib.cell_of_heap m5.out]; rfl
    have wc6 : w44.cell? ⟨gb147, 6, none⟩ = some (.slice Ao44 y144.length co44) := by rw [Lib.cell_of_heap m5.out]; rfl
    obtain ⟨kE, hE⟩ := (Pure.equal_ev t103 t104 t105 t106 t107 t108 y144 (by have := HSL.out; have := HOps1.out; rw [← this, List.length_append, List.length_singleton]; omega)).rounds
    have HE := Aside0.mk hE
    clear hE
    have S1 : True := trivial
    have hUs : ((s ++ (⟨#[10]⟩ : ByteArray)) ++ ln).size ≤ 1000000000 := by
      rw [ByteArray.size_append, ByteArray.size_append, show (⟨#[10]⟩ : ByteArray).size = 1 from rfl]
      have := HSL.out
      omega
    obtain ⟨kU, hU⟩ := (Pure.parse_P _ hUs).rounds
    obtain ⟨kO, hO⟩ := (Pure.parseOp_P ln (by have := HSL.out; omega)).rounds
    obtain ⟨kL, hL⟩ := (Pure.look_ev ln (by have := HSL.out; omega)).rounds
    obtain ⟨kM, hM⟩ := (Pure.look_ev s (by have := HSL.out; omega)).rounds
    clear hUs
    have hwd : ∀ W : World, (Instr.extract (.tuple #[]) 0).run Tryd.prog W = (Instr.extract (.tuple #[]) 0).run Tryd.prog W := fun _ => rfl
    clear hwd
    rcases ops_cases ln with ⟨⟨p0_, p1_, p2_, p3_, p4_, p5_, p6_⟩, hp, h10, hline⟩ | ⟨hp, h10 | ⟨h10, hsil⟩ | ⟨h10, hsil, hline⟩⟩
    · have hj := Pure.join_good HG.out h10 (hline _ _)
      rw [show Pure.joinB s ln = (s ++ (⟨#[10]⟩ : ByteArray)) ++ ln from rfl] at hj
      rw [hj] at hU
      rw [hp] at hO
      obtain ⟨L2, hL2⟩ : ∃ L2, t109 ++ [(⟨p0_, p1_, p2_, p3_, p4_, p5_, p6_⟩ : S29)] = L2 := ⟨_, rfl⟩
      have HL2 := Aside0.mk hL2
      rw [hL2] at hU
      have HU := Aside0.mk (show script_Parse.f kU ((s ++ (⟨#[10]⟩ : ByteArray)) ++ ln) = some (t103, t104, t105, t106, t107, t108, L2, 0, 0) from hU)
      have HO2 := Aside0.mk (show script_ParseOp.f kO ln = some (p0_, p1_, p2_, p3_, p4_, p5_, p6_, 0) from hO)
      obtain ⟨gz, cz, ez, hgz, _, _⟩ := Kd.R_form q2.out (by rw [← HOps1.out, List.length_append, List.length_singleton]; omega)
      injection ez with ez1 ez2 ez3
      subst ez1
      have HGZ := Aside0.mk hgz
      obtain ⟨jn, hjn⟩ : ∃ jn, t109.length = jn := ⟨_, rfl⟩
      have hyl : y144.length = jn + 1 := by rw [← HOps1.out, List.length_append, List.length_singleton, hjn]
      have hset : y144.set jn (⟨p0_, p1_, p2_, p3_, p4_, p5_, p6_⟩ : S29) = L2 := by
        rw [← HOps1.out, ← hL2, ← hjn, List.set_append_right _ _ (Nat.le_refl _), Nat.sub_self]; rfl
      have hlen : y144.length = L2.length := by rw [← hset, List.length_set]
      have hjm : jn ≤ 1048577 := by have := HSL.out; omega
      have HJN := Aside0.mk (show y144.length = jn + 1 ∧ y144.length = L2.length ∧ y144.set jn (⟨p0_, p1_, p2_, p3_, p4_, p5_, p6_⟩ : S29) = L2 ∧ jn ≤ 1048577 from ⟨hyl, hlen, hset, hjm⟩)
      obtain ⟨kF, hF⟩ := (Pure.equal_ev t103 t104 t105 t106 t107 t108 L2 (by omega)).rounds
      have HEQ := Aside0.mk (show ∀ (A : Option Addr) (c : Nat) (A' : Option Addr) (c' : Nat) (W : World), Kd.C k29 W A L2.length L2 → L2.length ≤ c → Kd.C k29 W A' L2.length L2 → y144.length ≤ c' → Calls Tryd.prog 25 #[.agg #[.int .i64 t103, .int .i64 t104, .int .i64 t105, .int .i64 t106, .int .i64 t107, .int .i64 t108, .slice A L2.length c], .agg #[.int .i64 t103, .int .i64 t104, .int .i64 t105, .int .i64 t106, .int .i64 t107, .int .i64 t108, .slice A' y144.length c']] W fun e w' => e = .returned (.bool true) ∧ Below W.heap.size W w' from by
        intro A c A' c' W h1 h2 h3 h4
        rw [hlen] at h4 ⊢
        exact barrowref24_Equal.calls kF _ _ _ _ _ _ A c L2 _ _ _ _ _ _ A' c' L2 true W h1 h2 h3 h4 hF)
      have hyw : wrap64 ((y144.length : Int) - 1) = (jn : Int) := by rw [hyl, w64 (by omega) (by omega)]; omega
      have hj0 : (0 ≤ (jn : Int)) = True := eq_true (by omega)
      have hj1 : ((jn : Int) < (y144.length : Int)) = True := eq_true (by omega)
      clear hU hO hp h10 hline hj hL2 hL hM ez2 ez3 hgz hjn hyl hset hlen hjm hF
      have f1 := eq_true (show s.size + 1 ≤ 9223372036854775807 by have := HSL.out; omega)
      have f2 := eq_false (show ¬ 9223372036854775807 < s.size + 1 by have := HSL.out; omega)
      have e10 : (⟨#[10]⟩ : ByteArray).size = 1 := rfl
      have f3 := eq_true (show (s ++ (⟨#[10]⟩ : ByteArray)).size + ln.size ≤ 9223372036854775807 by rw [ByteArray.size_append, e10]; have := HSL.out; omega)
      have f4 := eq_false (show ¬ 9223372036854775807 < (s ++ (⟨#[10]⟩ : ByteArray)).size + ln.size by rw [ByteArray.size_append, e10]; have := HSL.out; omega)
      have f5 := eq_false (show ¬ 9223372036854775807 < s.size + (⟨#[10]⟩ : ByteArray).size + ln.size by rw [e10]; have := HSL.out; omega)
      have f6 := eq_false (show ¬ 9223372036854775807 < s.size + 1 + ln.size by have := HSL.out; omega)
      clear e10
      have S2 : True := trivial
      have S3 : True := trivial
      have S4 : True := trivial
      have S5 : True := trivial
      have S6 : True := trivial
      have S7 : True := trivial
      have S8 : True := trivial
      have S9 : True := trivial
      go_wp2_with (first | (clear S1; go_at_call 25; refine (barrowref24_Equal.calls kE t103 t104 t105 t106 t107 t108 Ao30 co30 y144 t103 t104 t105 t106 t107 t108 (some ⟨gz, 0, none⟩) co44 y144 true _ (Kd.R_reads' q1.out).2.2 (Kd.R_reads' q1.out).2.1 (Kd.R_reads' q2.out).2.2 (Kd.R_reads' q2.out).2.1 HE.out).mono ?_; rintro e w45 ⟨rfl, hbb⟩; have n0 := Aside0.mk (blk_below m3.out hbb); have n1 := Aside0.mk (blk_below m4.out hbb); have n2 := Aside0.mk (blk_below m5.out hbb); have n3 := Aside0.mk (below_step m6.out hbb); have n4 := Aside0.mk (Kd.R_below q0.out hbb); have n5 := Aside0.mk (Kd.R_below q2.out hbb); clear hbb) | (clear S2; go_at_call 17; refine (script_ParseOp.calls kO ln p0_ p1_ p2_ p3_ p4_ p5_ p6_ 0 _ (tab_keep hTab n3.out) (tabE_keep hTabE n3.out) HO2.out).mono ?_; rintro e w46 ⟨rfl, hbb⟩; have p0 := Aside0.mk (blk_below n0.out hbb); have p1 := Aside0.mk (blk_below n1.out hbb); have p2 := Aside0.mk (blk_below n2.out hbb); have p3 := Aside0.mk (below_step n3.out hbb); have p4 := Aside0.mk (Kd.R_below n4.out hbb); have p5 := Aside0.mk (Kd.R_below n5.out hbb); clear hbb) | (clear S3; (with_reducible refine gate_dst (N := 13) rfl ?_); refine box_event ?hg (N := 13) ?hd (cs := #[.int .i64 0, .int .i64 0, .int .i64 0, .int .i64 0, .string ⟨#[]⟩, .int .i64 0, .int .i64 0]) (t := 29) ?hr ?_; (case hd => rfl); (case hg => rfl); (case hr => first | (go_simp; done) | (go_simp; rfl)); intro gp hgp w47 hbox hbb; have r0 := Aside0.mk (blk_below p0.out hbb); have r1 := Aside0.mk (blk_below p1.out hbb); have r2 := Aside0.mk (blk_below p2.out hbb); have r3 := Aside0.mk (below_step p3.out hbb); have r4 := Aside0.mk (Kd.R_below p4.out hbb); have r5 := Aside0.mk (Kd.R_below p5.out hbb); have r6 := Aside0.mk hbox; have r7 := Aside0.mk (show w.heap.size ≤ gp by rw [hgp]; exact p3.out.size); have r8 := Aside0.mk (show gb114 ≠ gp by rw [hgp]; exact Nat.ne_of_lt (blk_lt p0.out)); have r9 := Aside0.mk (show gb127 ≠ gp by rw [hgp]; exact Nat.ne_of_lt (blk_lt p1.out)); have ra := Aside0.mk (show gb147 ≠ gp by rw [hgp]; exact Nat.ne_of_lt (blk_lt p2.out)); have rb := Aside0.mk (show ∀ k, (Value.slice Ao22 t109.length co22).ownBlock = some k → k ≠ gp from fun k hk => by rw [hgp]; exact Nat.ne_of_lt (Kd.R_lt p4.out k hk)); have rc := Aside0.mk (show ∀ k, (Value.slice (some ⟨gz, 0, none⟩) y144.length co44).ownBlock = some k → k ≠ gp from fun k hk => by rw [hgp]; exact Nat.ne_of_lt (Kd.R_lt p5.out k hk)); clear hbox hbb hgp) | (clear S4; refine st29at (g := gp) rfl rfl rfl rfl rfl r6.out rfl rfl (by first | rfl | (simp [Value.oneCell'])) ?_; intro w48 hh hk hb; have s0 := Aside0.mk (hk _ _ r0.out r8.out); have s1 := Aside0.mk (hk _ _ r1.out r9.out); have s2 := Aside0.mk (hk _ _ r2.out ra.out); have s3 := Aside0.mk (hb _ _ r3.out r7.out); have s4 := Aside0.mk (R_keep r4.out rb.out hk); have s5 := Aside0.mk (R_keep r5.out rc.out hk); have s6 := Aside0.mk hh; clear hh hk hb) | (clear S5; go_at_call 23; refine (script_Parse.calls kU ((s ++ (⟨#[10]⟩ : ByteArray)) ++ ln) t103 t104 t105 t106 t107 t108 L2 0 0 _ (tab_keep hTab s3.out) (tabE_keep hTabE s3.out) (tabM_keep hTabM s3.out) HU.out).mono ?_; rintro e w49 ⟨vv, rfl, hoo, hbb⟩; have u0 := Aside0.mk (blk_below s0.out hbb); have u1 := Aside0.mk (blk_below s1.out hbb); have u2 := Aside0.mk (blk_below s2.out hbb); have u3 := Aside0.mk (below_step s3.out hbb); have u4 := Aside0.mk (Kd.R_below s4.out hbb); have u5 := Aside0.mk (Kd.R_elder' s5.out (Kd.R_base hoo) hbb); have u6 := Aside0.mk (blk_below s6.out hbb); have u7 := Aside0.mk (Kd.R_lower (Kd.R_new' hoo (Kd.R_lt s5.out)) s3.out.size); clear hoo hbb; obtain ⟨Av, cv, ev⟩ := Kd.R_slice u7.out; subst ev) | (clear S6; refine st26at (g := gb127) rfl rfl rfl rfl rfl u1.out rfl rfl (by first | rfl | (simp [Value.oneCell'])) ?_; intro w50 hh hk hb; have v0 := Aside0.mk (hk _ _ u0.out NB114_127.out); have v1 := Aside0.mk hh; have v2 := Aside0.mk (hk _ _ u2.out NB147_127.out); have v3 := Aside0.mk (hb _ _ u3.out GE127.out); have v4 := Aside0.mk (R_other' u4.out u1.out hk); have v5 := Aside0.mk (R_other' u5.out u1.out hk); have v7 := Aside0.mk (R_other' u7.out u1.out hk); have v6 := Aside0.mk (hk _ _ u6.out (fun e_ => r9.out e_.symm)); obtain ⟨ce, hcl, hM, hcc, hfr⟩ := Kd.R_elem v5.out z29 (jn : Int) (by omega) (by have := HJN.out.1; omega); obtain rfl := k29_openM hM; have HP := Kd.R_seg v5.out (jn : Int) (by omega) (by have := HJN.out.1; omega) (seg := [.int .i64 p0_, .int .i64 p1_, .int .i64 p2_, .int .i64 p3_, .string p4_, .int .i64 p5_, .int .i64 p6_]) (j := 0) hcl hcc (show 7 ≤ 7 from by decide) (x' := (⟨p0_, p1_, p2_, p3_, p4_, p5_, p6_⟩ : S29)) (k29_mkM _ _ _ (⟨p0_, p1_, p2_, p3_, p4_, p5_, p6_⟩ : S29)) (fun _ hk => hk); simp only [Int.toNat_natCast, show k29.sz = 7 from rfl, Nat.add_zero] at HP; have HPP := Aside0.mk HP; clear HP; have hx0 := hcc 0 _ rfl; simp only [Int.toNat_natCast, show k29.sz = 7 from rfl, Nat.add_zero] at hx0; have hf0 := hfr 0; simp only [Int.toNat_natCast, show k29.sz = 7 from rfl, Nat.add_zero] at hf0; have hx1 := hcc 1 _ rfl; simp only [Int.toNat_natCast, show k29.sz = 7 from rfl, Nat.add_zero] at hx1; have hf1 := hfr 1; simp only [Int.toNat_natCast, show k29.sz = 7 from rfl, Nat.add_zero] at hf1; have hx2 := hcc 2 _ rfl; simp only [Int.toNat_natCast, show k29.sz = 7 from rfl, Nat.add_zero] at hx2; have hf2 := hfr 2; simp only [Int.toNat_natCast, show k29.sz = 7 from rfl, Nat.add_zero] at hf2; have hx3 := hcc 3 _ rfl; simp only [Int.toNat_natCast, show k29.sz = 7 from rfl, Nat.add_zero] at hx3; have hf3 := hfr 3; simp only [Int.toNat_natCast, show k29.sz = 7 from rfl, Nat.add_zero] at hf3; have hx4 := hcc 4 _ rfl; simp only [Int.toNat_natCast, show k29.sz = 7 from rfl, Nat.add_zero] at hx4; have hf4 := hfr 4; simp only [Int.toNat_natCast, show k29.sz = 7 from rfl, Nat.add_zero] at hf4; have hx5 := hcc 5 _ rfl; simp only [Int.toNat_natCast, show k29.sz = 7 from rfl, Nat.add_zero] at hx5; have hf5 := hfr 5; simp only [Int.toNat_natCast, show k29.sz = 7 from rfl, Nat.add_zero] at hf5; have hx6 := hcc 6 _ rfl; simp only [Int.toNat_natCast, show k29.sz = 7 from rfl, Nat.add_zero] at hx6; have hf6 := hfr 6; simp only [Int.toNat_natCast, show k29.sz = 7 from rfl, Nat.add_zero] at hf6; clear hcl hM hcc hfr; have hwz : w50.cell? ⟨gb147, 6, none⟩ = some (.slice (some ⟨gz, 0, none⟩) y144.length co44) := (by rw [Lib.cell_of_heap v2.out]; rfl); have gg0 : w50.cell? ⟨gp, 0, none⟩ = some (.int .i64 p0_) := (by rw [Lib.cell_of_heap v6.out]; rfl); have gg1 : w50.cell? ⟨gp, 1, none⟩ = some (.int .i64 p1_) := (by rw [Lib.cell_of_heap v6.out]; rfl); have gg2 : w50.cell? ⟨gp, 2, none⟩ = some (.int .i64 p2_) := (by rw [Lib.cell_of_heap v6.out]; rfl); have gg3 : w50.cell? ⟨gp, 3, none⟩ = some (.int .i64 p3_) := (by rw [Lib.cell_of_heap v6.out]; rfl); have gg4 : w50.cell? ⟨gp, 4, none⟩ = some (.string p4_) := (by rw [Lib.cell_of_heap v6.out]; rfl); have gg5 : w50.cell? ⟨gp, 5, none⟩ = some (.int .i64 p5_) := (by rw [Lib.cell_of_heap v6.out]; rfl); have gg6 : w50.cell? ⟨gp, 6, none⟩ = some (.int .i64 p6_) := (by rw [Lib.cell_of_heap v6.out]; rfl); clear hh hk hb) | (clear S7; (with_reducible refine gate_store (t := 29) (p := 85) rfl ?_); refine store_event (t := 29) (p := 85) (v := ?vo_w52) (w1 := (((((((w50.setCell ⟨gz, jn * 7, none⟩ (.int .i64 p0_)).setCell ⟨gz, jn * 7 + 1, none⟩ (.int .i64 p1_)).setCell ⟨gz, jn * 7 + 2, none⟩ (.int .i64 p2_)).setCell ⟨gz, jn * 7 + 3, none⟩ (.int .i64 p3_)).setCell ⟨gz, jn * 7 + 4, none⟩ (.string p4_)).setCell ⟨gz, jn * 7 + 5, none⟩ (.int .i64 p5_)).setCell ⟨gz, jn * 7 + 6, none⟩ (.int .i64 p6_))) ?hg ?ho ?hn ?hr ?_; (case ho => rfl); (case hg => rfl); (case hn => rfl); (case hr => first | (go_simp; done) | (go_simp; rfl)); intro w52 hw; have hg := (show w50.grownBy w52 (some gz) by rw [hw]; exact HPP.out.2); have y5 := Aside0.mk (show Kd.R k29 29 w52 w.heap.size _ (.slice (some ⟨gz, 0, none⟩) y144.length co44) L2 from by rw [hw, ← HJN.out.2.2.1]; exact HPP.out.1); have y7 := Aside0.mk (Kd.R_after (v := (.slice (some ⟨gz, 0, none⟩) y144.length co44)) (v1 := (.slice (some ⟨gz, 0, none⟩) y144.length co44)) v7.out hg (Or.inl rfl)); have y1 := Aside0.mk (blk_grown v1.out hg (Kd.R_ne v5.out v1.out (by decide))); have y2 := Aside0.mk (blk_grown v2.out hg (Kd.R_ne v5.out v2.out (by decide))); have y3 := Aside0.mk (show Below w.heap.size w w52 by rw [hw]; (repeat (refine below_set ?_ HGZ.out)); exact v3.out); have gd0 : w52.cell? ⟨gb127, 0, none⟩ = some (.int .i64 t103) := (by rw [Lib.cell_of_heap y1.out]; rfl); have gd1 : w52.cell? ⟨gb127, 1, none⟩ = some (.int .i64 t104) := (by rw [Lib.cell_of_heap y1.out]; rfl); have gd2 : w52.cell? ⟨gb127, 2, none⟩ = some (.int .i64 t105) := (by rw [Lib.cell_of_heap y1.out]; rfl); have gd3 : w52.cell? ⟨gb127, 3, none⟩ = some (.int .i64 t106) := (by rw [Lib.cell_of_heap y1.out]; rfl); have gd4 : w52.cell? ⟨gb127, 4, none⟩ = some (.int .i64 t107) := (by rw [Lib.cell_of_heap y1.out]; rfl); have gd5 : w52.cell? ⟨gb127, 5, none⟩ = some (.int .i64 t108) := (by rw [Lib.cell_of_heap y1.out]; rfl); have gd6 : w52.cell? ⟨gb127, 6, none⟩ = some (.slice Av (L2).length cv) := (by rw [Lib.cell_of_heap y1.out]; rfl); have ge0 : w52.cell? ⟨gb147, 0, none⟩ = some (.int .i64 t103) := (by rw [Lib.cell_of_heap y2.out]; rfl); have ge1 : w52.cell? ⟨gb147, 1, none⟩ = some (.int .i64 t104) := (by rw [Lib.cell_of_heap y2.out]; rfl); have ge2 : w52.cell? ⟨gb147, 2, none⟩ = some (.int .i64 t105) := (by rw [Lib.cell_of_heap y2.out]; rfl); have ge3 : w52.cell? ⟨gb147, 3, none⟩ = some (.int .i64 t106) := (by rw [Lib.cell_of_heap y2.out]; rfl); have ge4 : w52.cell? ⟨gb147, 4, none⟩ = some (.int .i64 t107) := (by rw [Lib.cell_of_heap y2.out]; rfl); have ge5 : w52.cell? ⟨gb147, 5, none⟩ = some (.int .i64 t108) := (by rw [Lib.cell_of_heap y2.out]; rfl); have ge6 : w52.cell? ⟨gb147, 6, none⟩ = some (.slice (some ⟨gz, 0, none⟩) y144.length co44) := (by rw [Lib.cell_of_heap y2.out]; rfl); clear hw hg HPP hx0 hx1 hx2 hx3 hx4 hx5 hx6 hf0 hf1 hf2 hf3 hf4 hf5 hf6) | (clear S8; go_at_call 25; refine (HEQ.out Av cv (some ⟨gz, 0, none⟩) co44 _ (Kd.R_reads' y7.out).2.2 (Kd.R_reads' y7.out).2.1 (Kd.R_reads' y5.out).2.2 (Kd.R_reads' y5.out).2.1).mono ?_; rintro e w60 ⟨rfl, hbb⟩; have z3 := Aside0.mk (below_step y3.out hbb); clear hbb) | go_in)
      go_ret
      exact ⟨rfl, z3.out⟩
    · rw [hp] at hO
      obtain ⟨⟨b1, b2, b3, b4, b5, b6, bl, bn, bf⟩, hr⟩ : ∃ r, Pure.parsP ((s ++ (⟨#[10]⟩ : ByteArray)) ++ ln) = r := ⟨_, rfl⟩
      rw [hr] at hU
      have HU := Aside0.mk (show script_Parse.f kU ((s ++ (⟨#[10]⟩ : ByteArray)) ++ ln) = some (b1, b2, b3, b4, b5, b6, bl, bn, bf) from hU)
      have HO2 := Aside0.mk (show script_ParseOp.f kO ln = some (0, 0, 0, 0, (⟨#[]⟩ : ByteArray), 0, 0, 17) from hO)
      obtain ⟨cn, hcn⟩ : ∃ cn, (bytesOf ln).count 10 = cn := ⟨_, rfl⟩
      have hcp : 0 < cn := by rw [← hcn]; exact List.count_pos_iff.2 h10
      rw [hcn] at hL
      obtain ⟨sy, hsy⟩ : ∃ sy, (!silI (bytesOf ln)) = sy := ⟨_, rfl⟩
      rw [hsy] at hL
      have HLK := Aside0.mk (show barrowlaw24_look.f kL ln = some (sy, (cn : Int)) from hL)
      have hc1 : ((cn : Int) > 0) = True := eq_true (by omega)
      have hc2 : decide ((cn : Int) > 0) = true := decide_eq_true (by omega)
      clear hU hO hp h10 hr hL hM hcn hsy
      have f1 := eq_true (show s.size + 1 ≤ 9223372036854775807 by have := HSL.out; omega)
      have f2 := eq_false (show ¬ 9223372036854775807 < s.size + 1 by have := HSL.out; omega)
      have e10 : (⟨#[10]⟩ : ByteArray).size = 1 := rfl
      have f3 := eq_true (show (s ++ (⟨#[10]⟩ : ByteArray)).size + ln.size ≤ 9223372036854775807 by rw [ByteArray.size_append, e10]; have := HSL.out; omega)
      have f4 := eq_false (show ¬ 9223372036854775807 < (s ++ (⟨#[10]⟩ : ByteArray)).size + ln.size by rw [ByteArray.size_append, e10]; have := HSL.out; omega)
      have f5 := eq_false (show ¬ 9223372036854775807 < s.size + (⟨#[10]⟩ : ByteArray).size + ln.size by rw [e10]; have := HSL.out; omega)
      have f6 := eq_false (show ¬ 9223372036854775807 < s.size + 1 + ln.size by have := HSL.out; omega)
      clear e10
      have S2 : True := trivial
      have S3 : True := trivial
      have S4 : True := trivial
      have S5 : True := trivial
      have S6 : True := trivial
      have S7 : True := trivial
      have S8 : True := trivial
      have S9 : True := trivial
      go_wp2_with (first | (clear S1; go_at_call 25; refine (barrowref24_Equal.calls kE t103 t104 t105 t106 t107 t108 Ao30 co30 y144 t103 t104 t105 t106 t107 t108 Ao44 co44 y144 true _ (Kd.R_reads' q1.out).2.2 (Kd.R_reads' q1.out).2.1 (Kd.R_reads' q2.out).2.2 (Kd.R_reads' q2.out).2.1 HE.out).mono ?_; rintro e w45 ⟨rfl, hbb⟩; have n0 := Aside0.mk (blk_below m3.out hbb); have n1 := Aside0.mk (blk_below m4.out hbb); have n2 := Aside0.mk (blk_below m5.out hbb); have n3 := Aside0.mk (below_step m6.out hbb); have n4 := Aside0.mk (Kd.R_below q0.out hbb); have n5 := Aside0.mk (Kd.R_below q2.out hbb); clear hbb) | (clear S2; go_at_call 17; refine (script_ParseOp.calls kO ln 0 0 0 0 (⟨#[]⟩ : ByteArray) 0 0 17 _ (tab_keep hTab n3.out) (tabE_keep hTabE n3.out) HO2.out).mono ?_; rintro e w46 ⟨rfl, hbb⟩; have p0 := Aside0.mk (blk_below n0.out hbb); have p1 := Aside0.mk (blk_below n1.out hbb); have p2 := Aside0.mk (blk_below n2.out hbb); have p3 := Aside0.mk (below_step n3.out hbb); have p4 := Aside0.mk (Kd.R_below n4.out hbb); have p5 := Aside0.mk (Kd.R_below n5.out hbb); clear hbb) | (clear S3; (with_reducible refine gate_dst (N := 13) rfl ?_); refine box_event ?hg (N := 13) ?hd (cs := #[.int .i64 0, .int .i64 0, .int .i64 0, .int .i64 0, .string ⟨#[]⟩, .int .i64 0, .int .i64 0]) (t := 29) ?hr ?_; (case hd => rfl); (case hg => rfl); (case hr => first | (go_simp; done) | (go_simp; rfl)); intro gp hgp w47 hbox hbb; have r0 := Aside0.mk (blk_below p0.out hbb); have r1 := Aside0.mk (blk_below p1.out hbb); have r2 := Aside0.mk (blk_below p2.out hbb); have r3 := Aside0.mk (below_step p3.out hbb); have r4 := Aside0.mk (Kd.R_below p4.out hbb); have r5 := Aside0.mk (Kd.R_below p5.out hbb); have r6 := Aside0.mk hbox; have r7 := Aside0.mk (show w.heap.size ≤ gp by rw [hgp]; exact p3.out.size); have r8 := Aside0.mk (show gb114 ≠ gp by rw [hgp]; exact Nat.ne_of_lt (blk_lt p0.out)); have r9 := Aside0.mk (show gb127 ≠ gp by rw [hgp]; exact Nat.ne_of_lt (blk_lt p1.out)); have ra := Aside0.mk (show gb147 ≠ gp by rw [hgp]; exact Nat.ne_of_lt (blk_lt p2.out)); have rb := Aside0.mk (show ∀ k, (Value.slice Ao22 t109.length co22).ownBlock = some k → k ≠ gp from fun k hk => by rw [hgp]; exact Nat.ne_of_lt (Kd.R_lt p4.out k hk)); have rc := Aside0.mk (show ∀ k, (Value.slice Ao44 y144.length co44).ownBlock = some k → k ≠ gp from fun k hk => by rw [hgp]; exact Nat.ne_of_lt (Kd.R_lt p5.out k hk)); clear hbox hbb hgp) | (clear S4; refine st29at (g := gp) rfl rfl rfl rfl rfl r6.out rfl rfl (by first | rfl | (simp [Value.oneCell'])) ?_; intro w48 hh hk hb; have s0 := Aside0.mk (hk _ _ r0.out r8.out); have s1 := Aside0.mk (hk _ _ r1.out r9.out); have s2 := Aside0.mk (hk _ _ r2.out ra.out); have s3 := Aside0.mk (hb _ _ r3.out r7.out); have s4 := Aside0.mk (R_keep r4.out rb.out hk); have s5 := Aside0.mk (R_keep r5.out rc.out hk); have s6 := Aside0.mk hh; clear hh hk hb) | (clear S5; go_at_call 23; refine (script_Parse.calls kU ((s ++ (⟨#[10]⟩ : ByteArray)) ++ ln) b1 b2 b3 b4 b5 b6 bl bn bf _ (tab_keep hTab s3.out) (tabE_keep hTabE s3.out) (tabM_keep hTabM s3.out) HU.out).mono ?_; rintro e w49 ⟨vv, rfl, hoo, hbb⟩; have u0 := Aside0.mk (blk_below s0.out hbb); have u1 := Aside0.mk (blk_below s1.out hbb); have u2 := Aside0.mk (blk_below s2.out hbb); have u3 := Aside0.mk (below_step s3.out hbb); have u4 := Aside0.mk (Kd.R_below s4.out hbb); have u5 := Aside0.mk (Kd.R_elder' s5.out (Kd.R_base hoo) hbb); have u6 := Aside0.mk (blk_below s6.out hbb); have u7 := Aside0.mk (Kd.R_lower (Kd.R_new' hoo (Kd.R_lt s5.out)) s3.out.size); clear hoo hbb; obtain ⟨Av, cv, ev⟩ := Kd.R_slice u7.out; subst ev) | (clear S6; refine st26at (g := gb127) rfl rfl rfl rfl rfl u1.out rfl rfl (by first | rfl | (simp [Value.oneCell'])) ?_; intro w50 hh hk hb; have v0 := Aside0.mk (hk _ _ u0.out NB114_127.out); have v1 := Aside0.mk hh; have v2 := Aside0.mk (hk _ _ u2.out NB147_127.out); have v3 := Aside0.mk (hb _ _ u3.out GE127.out); have v4 := Aside0.mk (R_other' u4.out u1.out hk); have v5 := Aside0.mk (R_other' u5.out u1.out hk); have v7 := Aside0.mk (R_other' u7.out u1.out hk); have v6 := Aside0.mk (hk _ _ u6.out (fun e_ => r9.out e_.symm));  clear hh hk hb) | (clear S7; go_at_call 27; refine (barrowlaw24_look.calls kL ln sy (cn : Int) _ HLK.out).mono ?_; rintro e wx ⟨rfl, hdr⟩; have x3 := Aside0.mk (dr_below hdr v3.out);  clear hdr) | go_in)
      go_ret
      exact ⟨rfl, x3.out⟩
    · rw [hp] at hO
      have hj := Pure.join_good HG.out h10 (show Pure.lineP true _ t109 (bytesOf ln) = some (true, _, t109) by unfold Pure.lineP; rw [if_pos hsil])
      rw [show Pure.joinB s ln = (s ++ (⟨#[10]⟩ : ByteArray)) ++ ln from rfl] at hj
      rw [hj] at hU
      have HU := Aside0.mk (show script_Parse.f kU ((s ++ (⟨#[10]⟩ : ByteArray)) ++ ln) = some (t103, t104, t105, t106, t107, t108, t109, 0, 0) from hU)
      have HO2 := Aside0.mk (show script_ParseOp.f kO ln = some (0, 0, 0, 0, (⟨#[]⟩ : ByteArray), 0, 0, 17) from hO)
      rw [hsil, List.count_eq_zero.2 h10] at hL
      have HLK := Aside0.mk (show barrowlaw24_look.f kL ln = some (false, 0) from hL)
      obtain ⟨kF, hF⟩ := (Pure.equal_ev t103 t104 t105 t106 t107 t108 t109 (by have := HSL.out; omega)).rounds
      have HF := Aside0.mk hF
      clear hU hO hp h10 hsil hj hL hM hF
      have f1 := eq_true (show s.size + 1 ≤ 9223372036854775807 by have := HSL.out; omega)
      have f2 := eq_false (show ¬ 9223372036854775807 < s.size + 1 by have := HSL.out; omega)
      have e10 : (⟨#[10]⟩ : ByteArray).size = 1 := rfl
      have f3 := eq_true (show (s ++ (⟨#[10]⟩ : ByteArray)).size + ln.size ≤ 9223372036854775807 by rw [ByteArray.size_append, e10]; have := HSL.out; omega)
      have f4 := eq_false (show ¬ 9223372036854775807 < (s ++ (⟨#[10]⟩ : ByteArray)).size + ln.size by rw [ByteArray.size_append, e10]; have := HSL.out; omega)
      have f5 := eq_false (show ¬ 9223372036854775807 < s.size + (⟨#[10]⟩ : ByteArray).size + ln.size by rw [e10]; have := HSL.out; omega)
      have f6 := eq_false (show ¬ 9223372036854775807 < s.size + 1 + ln.size by have := HSL.out; omega)
      clear e10
      have S2 : True := trivial
      have S3 : True := trivial
      have S4 : True := trivial
      have S5 : True := trivial
      have S6 : True := trivial
      have S7 : True := trivial
      have S8 : True := trivial
      have S9 : True := trivial
      go_wp2_with (first | (clear S1; go_at_call 25; refine (barrowref24_Equal.calls kE t103 t104 t105 t106 t107 t108 Ao30 co30 y144 t103 t104 t105 t106 t107 t108 Ao44 co44 y144 true _ (Kd.R_reads' q1.out).2.2 (Kd.R_reads' q1.out).2.1 (Kd.R_reads' q2.out).2.2 (Kd.R_reads' q2.out).2.1 HE.out).mono ?_; rintro e w45 ⟨rfl, hbb⟩; have n0 := Aside0.mk (blk_below m3.out hbb); have n1 := Aside0.mk (blk_below m4.out hbb); have n2 := Aside0.mk (blk_below m5.out hbb); have n3 := Aside0.mk (below_step m6.out hbb); have n4 := Aside0.mk (Kd.R_below q0.out hbb); have n5 := Aside0.mk (Kd.R_below q2.out hbb); clear hbb) | (clear S2; go_at_call 17; refine (script_ParseOp.calls kO ln 0 0 0 0 (⟨#[]⟩ : ByteArray) 0 0 17 _ (tab_keep hTab n3.out) (tabE_keep hTabE n3.out) HO2.out).mono ?_; rintro e w46 ⟨rfl, hbb⟩; have p0 := Aside0.mk (blk_below n0.out hbb); have p1 := Aside0.mk (blk_below n1.out hbb); have p2 := Aside0.mk (blk_below n2.out hbb); have p3 := Aside0.mk (below_step n3.out hbb); have p4 := Aside0.mk (Kd.R_below n4.out hbb); have p5 := Aside0.mk (Kd.R_below n5.out hbb); clear hbb) | (clear S3; (with_reducible refine gate_dst (N := 13) rfl ?_); refine box_event ?hg (N := 13) ?hd (cs := #[.int .i64 0, .int .i64 0, .int .i64 0, .int .i64 0, .string ⟨#[]⟩, .int .i64 0, .int .i64 0]) (t := 29) ?hr ?_; (case hd => rfl); (case hg => rfl); (case hr => first | (go_simp; done) | (go_simp; rfl)); intro gp hgp w47 hbox hbb; have r0 := Aside0.mk (blk_below p0.out hbb); have r1 := Aside0.mk (blk_below p1.out hbb); have r2 := Aside0.mk (blk_below p2.out hbb); have r3 := Aside0.mk (below_step p3.out hbb); have r4 := Aside0.mk (Kd.R_below p4.out hbb); have r5 := Aside0.mk (Kd.R_below p5.out hbb); have r6 := Aside0.mk hbox; have r7 := Aside0.mk (show w.heap.size ≤ gp by rw [hgp]; exact p3.out.size); have r8 := Aside0.mk (show gb114 ≠ gp by rw [hgp]; exact Nat.ne_of_lt (blk_lt p0.out)); have r9 := Aside0.mk (show gb127 ≠ gp by rw [hgp]; exact Nat.ne_of_lt (blk_lt p1.out)); have ra := Aside0.mk (show gb147 ≠ gp by rw [hgp]; exact Nat.ne_of_lt (blk_lt p2.out)); have rb := Aside0.mk (show ∀ k, (Value.slice Ao22 t109.length co22).ownBlock = some k → k ≠ gp from fun k hk => by rw [hgp]; exact Nat.ne_of_lt (Kd.R_lt p4.out k hk)); have rc := Aside0.mk (show ∀ k, (Value.slice Ao44 y144.length co44).ownBlock = some k → k ≠ gp from fun k hk => by rw [hgp]; exact Nat.ne_of_lt (Kd.R_lt p5.out k hk)); clear hbox hbb hgp) | (clear S4; refine st29at (g := gp) rfl rfl rfl rfl rfl r6.out rfl rfl (by first | rfl | (simp [Value.oneCell'])) ?_; intro w48 hh hk hb; have s0 := Aside0.mk (hk _ _ r0.out r8.out); have s1 := Aside0.mk (hk _ _ r1.out r9.out); have s2 := Aside0.mk (hk _ _ r2.out ra.out); have s3 := Aside0.mk (hb _ _ r3.out r7.out); have s4 := Aside0.mk (R_keep r4.out rb.out hk); have s5 := Aside0.mk (R_keep r5.out rc.out hk); have s6 := Aside0.mk hh; clear hh hk hb) | (clear S5; go_at_call 23; refine (script_Parse.calls kU ((s ++ (⟨#[10]⟩ : ByteArray)) ++ ln) t103 t104 t105 t106 t107 t108 t109 0 0 _ (tab_keep hTab s3.out) (tabE_keep hTabE s3.out) (tabM_keep hTabM s3.out) HU.out).mono ?_; rintro e w49 ⟨vv, rfl, hoo, hbb⟩; have u0 := Aside0.mk (blk_below s0.out hbb); have u1 := Aside0.mk (blk_below s1.out hbb); have u2 := Aside0.mk (blk_below s2.out hbb); have u3 := Aside0.mk (below_step s3.out hbb); have u4 := Aside0.mk (Kd.R_below s4.out hbb); have u5 := Aside0.mk (Kd.R_elder' s5.out (Kd.R_base hoo) hbb); have u6 := Aside0.mk (blk_below s6.out hbb); have u7 := Aside0.mk (Kd.R_lower (Kd.R_new' hoo (Kd.R_lt s5.out)) s3.out.size); clear hoo hbb; obtain ⟨Av, cv, ev⟩ := Kd.R_slice u7.out; subst ev) | (clear S6; refine st26at (g := gb127) rfl rfl rfl rfl rfl u1.out rfl rfl (by first | rfl | (simp [Value.oneCell'])) ?_; intro w50 hh hk hb; have v0 := Aside0.mk (hk _ _ u0.out NB114_127.out); have v1 := Aside0.mk hh; have v2 := Aside0.mk (hk _ _ u2.out NB147_127.out); have v3 := Aside0.mk (hb _ _ u3.out GE127.out); have v4 := Aside0.mk (R_other' u4.out u1.out hk); have v5 := Aside0.mk (R_other' u5.out u1.out hk); have v7 := Aside0.mk (R_other' u7.out u1.out hk); have v6 := Aside0.mk (hk _ _ u6.out (fun e_ => r9.out e_.symm));  clear hh hk hb) | (clear S7; go_at_call 27; refine (barrowlaw24_look.calls kL ln false 0 _ HLK.out).mono ?_; rintro e wx ⟨rfl, hdr⟩; have x3 := Aside0.mk (dr_below hdr v3.out); have x0 := Aside0.mk (dr_heap hdr _ v0.out); have x1 := Aside0.mk (dr_heap hdr _ v1.out); have x4 := Aside0.mk (R_dr hdr v4.out); have x7 := Aside0.mk (R_dr hdr v7.out); have ga0 : wx.cell? ⟨gb127, 0, none⟩ = some (.int .i64 t103) := (by rw [Lib.cell_of_heap x1.out]; rfl); have ga1 : wx.cell? ⟨gb127, 1, none⟩ = some (.int .i64 t104) := (by rw [Lib.cell_of_heap x1.out]; rfl); have ga2 : wx.cell? ⟨gb127, 2, none⟩ = some (.int .i64 t105) := (by rw [Lib.cell_of_heap x1.out]; rfl); have ga3 : wx.cell? ⟨gb127, 3, none⟩ = some (.int .i64 t106) := (by rw [Lib.cell_of_heap x1.out]; rfl); have ga4 : wx.cell? ⟨gb127, 4, none⟩ = some (.int .i64 t107) := (by rw [Lib.cell_of_heap x1.out]; rfl); have ga5 : wx.cell? ⟨gb127, 5, none⟩ = some (.int .i64 t108) := (by rw [Lib.cell_of_heap x1.out]; rfl); have ga6 : wx.cell? ⟨gb127, 6, none⟩ = some (.slice Av (t109).length cv) := (by rw [Lib.cell_of_heap x1.out]; rfl); have gb0 : wx.cell? ⟨gb114, 0, none⟩ = some (.int .i64 t103) := (by rw [Lib.cell_of_heap x0.out]; rfl); have gb1 : wx.cell? ⟨gb114, 1, none⟩ = some (.int .i64 t104) := (by rw [Lib.cell_of_heap x0.out]; rfl); have gb2 : wx.cell? ⟨gb114, 2, none⟩ = some (.int .i64 t105) := (by rw [Lib.cell_of_heap x0.out]; rfl); have gb3 : wx.cell? ⟨gb114, 3, none⟩ = some (.int .i64 t106) := (by rw [Lib.cell_of_heap x0.out]; rfl); have gb4 : wx.cell? ⟨gb114, 4, none⟩ = some (.int .i64 t107) := (by rw [Lib.cell_of_heap x0.out]; rfl); have gb5 : wx.cell? ⟨gb114, 5, none⟩ = some (.int .i64 t108) := (by rw [Lib.cell_of_heap x0.out]; rfl); have gb6 : wx.cell? ⟨gb114, 6, none⟩ = some (.slice Ao22 t109.length co22) := (by rw [Lib.cell_of_heap x0.out]; rfl); clear hdr) | (clear S8; go_at_call 25; refine (barrowref24_Equal.calls kF t103 t104 t105 t106 t107 t108 Av cv t109 t103 t104 t105 t106 t107 t108 Ao22 co22 t109 true _ (Kd.R_reads' x7.out).2.2 (Kd.R_reads' x7.out).2.1 (Kd.R_reads' x4.out).2.2 (Kd.R_reads' x4.out).2.1 HF.out).mono ?_; rintro e w60 ⟨rfl, hbb⟩; have y3 := Aside0.mk (below_step x3.out hbb); clear hbb) | go_in)
      go_ret
      exact ⟨rfl, y3.out⟩
    · rw [hp] at hO
      have hj := Pure.join_bad HG.out h10 (hline _ _)
      rw [show Pure.joinB s ln = (s ++ (⟨#[10]⟩ : ByteArray)) ++ ln from rfl] at hj
      rw [hj] at hU
      obtain ⟨cn, hcn⟩ : ∃ cn, (bytesOf s).count 10 = cn := ⟨_, rfl⟩
      have hcl : cn ≤ 1048576 := by
        rw [← hcn]
        have h1 := List.count_le_length (a := (10 : Int)) (l := bytesOf s)
        rw [bytesOf_length] at h1
        have := HSL.out
        omega
      rw [hcn] at hU hM
      have HU := Aside0.mk (show script_Parse.f kU ((s ++ (⟨#[10]⟩ : ByteArray)) ++ ln) = some (0, 0, 0, 0, 0, 0, [], ((cn + 2 : Nat) : Int), 17) from hU)
      have HO2 := Aside0.mk (show script_ParseOp.f kO ln = some (0, 0, 0, 0, (⟨#[]⟩ : ByteArray), 0, 0, 17) from hO)
      rw [hsil, List.count_eq_zero.2 h10] at hL
      have HLK := Aside0.mk (show barrowlaw24_look.f kL ln = some (true, 0) from hL)
      obtain ⟨sy, hsy⟩ : ∃ sy, (!silI (bytesOf s)) = sy := ⟨_, rfl⟩
      rw [hsy] at hM
      have HLM := Aside0.mk (show barrowlaw24_look.f kM s = some (sy, (cn : Int)) from hM)
      obtain ⟨kF, hF⟩ := (Pure.equal_ev 0 0 0 0 0 0 [] (by simp)).rounds
      have HF := Aside0.mk hF
      have hw2 : wrap64 ((cn : Int) + 2) = ((cn + 2 : Nat) : Int) := by rw [w64 (by omega) (by omega)]; rfl
      clear hU hO hp h10 hsil hj hL hM hF hline hcn hsy
      have f1 := eq_true (show s.size + 1 ≤ 9223372036854775807 by have := HSL.out; omega)
      have f2 := eq_false (show ¬ 9223372036854775807 < s.size + 1 by have := HSL.out; omega)
      have e10 : (⟨#[10]⟩ : ByteArray).size = 1 := rfl
      have f3 := eq_true (show (s ++ (⟨#[10]⟩ : ByteArray)).size + ln.size ≤ 9223372036854775807 by rw [ByteArray.size_append, e10]; have := HSL.out; omega)
      have f4 := eq_false (show ¬ 9223372036854775807 < (s ++ (⟨#[10]⟩ : ByteArray)).size + ln.size by rw [ByteArray.size_append, e10]; have := HSL.out; omega)
      have f5 := eq_false (show ¬ 9223372036854775807 < s.size + (⟨#[10]⟩ : ByteArray).size + ln.size by rw [e10]; have := HSL.out; omega)
      have f6 := eq_false (show ¬ 9223372036854775807 < s.size + 1 + ln.size by have := HSL.out; omega)
      clear e10
      have S2 : True := trivial
      have S3 : True := trivial
      have S4 : True := trivial
      have S5 : True := trivial
      have S6 : True := trivial
      have S7 : True := trivial
      have S8 : True := trivial
      have S9 : True := trivial
      go_wp2_with (first | (clear S1; go_at_call 25; refine (barrowref24_Equal.calls kE t103 t104 t105 t106 t107 t108 Ao30 co30 y144 t103 t104 t105 t106 t107 t108 Ao44 co44 y144 true _ (Kd.R_reads' q1.out).2.2 (Kd.R_reads' q1.out).2.1 (Kd.R_reads' q2.out).2.2 (Kd.R_reads' q2.out).2.1 HE.out).mono ?_; rintro e w45 ⟨rfl, hbb⟩; have n0 := Aside0.mk (blk_below m3.out hbb); have n1 := Aside0.mk (blk_below m4.out hbb); have n2 := Aside0.mk (blk_below m5.out hbb); have n3 := Aside0.mk (below_step m6.out hbb); have n4 := Aside0.mk (Kd.R_below q0.out hbb); have n5 := Aside0.mk (Kd.R_below q2.out hbb); clear hbb) | (clear S2; go_at_call 17; refine (script_ParseOp.calls kO ln 0 0 0 0 (⟨#[]⟩ : ByteArray) 0 0 17 _ (tab_keep hTab n3.out) (tabE_keep hTabE n3.out) HO2.out).mono ?_; rintro e w46 ⟨rfl, hbb⟩; have p0 := Aside0.mk (blk_below n0.out hbb); have p1 := Aside0.mk (blk_below n1.out hbb); have p2 := Aside0.mk (blk_below n2.out hbb); have p3 := Aside0.mk (below_step n3.out hbb); have p4 := Aside0.mk (Kd.R_below n4.out hbb); have p5 := Aside0.mk (Kd.R_below n5.out hbb); clear hbb) | (clear S3; (with_reducible refine gate_dst (N := 13) rfl ?_); refine box_event ?hg (N := 13) ?hd (cs := #[.int .i64 0, .int .i64 0, .int .i64 0, .int .i64 0, .string ⟨#[]⟩, .int .i64 0, .int .i64 0]) (t := 29) ?hr ?_; (case hd => rfl); (case hg => rfl); (case hr => first | (go_simp; done) | (go_simp; rfl)); intro gp hgp w47 hbox hbb; have r0 := Aside0.mk (blk_below p0.out hbb); have r1 := Aside0.mk (blk_below p1.out hbb); have r2 := Aside0.mk (blk_below p2.out hbb); have r3 := Aside0.mk (below_step p3.out hbb); have r4 := Aside0.mk (Kd.R_below p4.out hbb); have r5 := Aside0.mk (Kd.R_below p5.out hbb); have r6 := Aside0.mk hbox; have r7 := Aside0.mk (show w.heap.size ≤ gp by rw [hgp]; exact p3.out.size); have r8 := Aside0.mk (show gb114 ≠ gp by rw [hgp]; exact Nat.ne_of_lt (blk_lt p0.out)); have r9 := Aside0.mk (show gb127 ≠ gp by rw [hgp]; exact Nat.ne_of_lt (blk_lt p1.out)); have ra := Aside0.mk (show gb147 ≠ gp by rw [hgp]; exact Nat.ne_of_lt (blk_lt p2.out)); have rb := Aside0.mk (show ∀ k, (Value.slice Ao22 t109.length co22).ownBlock = some k → k ≠ gp from fun k hk => by rw [hgp]; exact Nat.ne_of_lt (Kd.R_lt p4.out k hk)); have rc := Aside0.mk (show ∀ k, (Value.slice Ao44 y144.length co44).ownBlock = some k → k ≠ gp from fun k hk => by rw [hgp]; exact Nat.ne_of_lt (Kd.R_lt p5.out k hk)); clear hbox hbb hgp) | (clear S4; refine st29at (g := gp) rfl rfl rfl rfl rfl r6.out rfl rfl (by first | rfl | (simp [Value.oneCell'])) ?_; intro w48 hh hk hb; have s0 := Aside0.mk (hk _ _ r0.out r8.out); have s1 := Aside0.mk (hk _ _ r1.out r9.out); have s2 := Aside0.mk (hk _ _ r2.out ra.out); have s3 := Aside0.mk (hb _ _ r3.out r7.out); have s4 := Aside0.mk (R_keep r4.out rb.out hk); have s5 := Aside0.mk (R_keep r5.out rc.out hk); have s6 := Aside0.mk hh; clear hh hk hb) | (clear S5; go_at_call 23; refine (script_Parse.calls kU ((s ++ (⟨#[10]⟩ : ByteArray)) ++ ln) 0 0 0 0 0 0 [] ((cn + 2 : Nat) : Int) 17 _ (tab_keep hTab s3.out) (tabE_keep hTabE s3.out) (tabM_keep hTabM s3.out) HU.out).mono ?_; rintro e w49 ⟨vv, rfl, hoo, hbb⟩; have u0 := Aside0.mk (blk_below s0.out hbb); have u1 := Aside0.mk (blk_below s1.out hbb); have u2 := Aside0.mk (blk_below s2.out hbb); have u3 := Aside0.mk (below_step s3.out hbb); have u4 := Aside0.mk (Kd.R_below s4.out hbb); have u5 := Aside0.mk (Kd.R_elder' s5.out (Kd.R_base hoo) hbb); have u6 := Aside0.mk (blk_below s6.out hbb); have u7 := Aside0.mk (Kd.R_lower (Kd.R_new' hoo (Kd.R_lt s5.out)) s3.out.size); clear hoo hbb; obtain ⟨Av, cv, ev⟩ := Kd.R_slice u7.out; subst ev) | (clear S6; refine st26at (g := gb127) rfl rfl rfl rfl rfl u1.out rfl rfl (by first | rfl | (simp [Value.oneCell'])) ?_; intro w50 hh hk hb; have v0 := Aside0.mk (hk _ _ u0.out NB114_127.out); have v1 := Aside0.mk hh; have v2 := Aside0.mk (hk _ _ u2.out NB147_127.out); have v3 := Aside0.mk (hb _ _ u3.out GE127.out); have v4 := Aside0.mk (R_other' u4.out u1.out hk); have v5 := Aside0.mk (R_other' u5.out u1.out hk); have v7 := Aside0.mk (R_other' u7.out u1.out hk); have v6 := Aside0.mk (hk _ _ u6.out (fun e_ => r9.out e_.symm));  clear hh hk hb) | (clear S7; go_at_call 27; refine (barrowlaw24_look.calls kL ln true 0 _ HLK.out).mono ?_; rintro e wx ⟨rfl, hdr⟩; have x3 := Aside0.mk (dr_below hdr v3.out); have x1 := Aside0.mk (dr_heap hdr _ v1.out); have x7 := Aside0.mk (R_dr hdr v7.out); clear hdr) | (clear S8; go_at_call 27; refine (barrowlaw24_look.calls kM s sy (cn : Int) _ HLM.out).mono ?_; rintro e wz ⟨rfl, hdr⟩; have z3 := Aside0.mk (dr_below hdr x3.out); have z1 := Aside0.mk (dr_heap hdr _ x1.out); have z7 := Aside0.mk (R_dr hdr x7.out); have ga0 : wz.cell? ⟨gb127, 0, none⟩ = some (.int .i64 0) := (by rw [Lib.cell_of_heap z1.out]; rfl); have ga1 : wz.cell? ⟨gb127, 1, none⟩ = some (.int .i64 0) := (by rw [Lib.cell_of_heap z1.out]; rfl); have ga2 : wz.cell? ⟨gb127, 2, none⟩ = some (.int .i64 0) := (by rw [Lib.cell_of_heap z1.out]; rfl); have ga3 : wz.cell? ⟨gb127, 3, none⟩ = some (.int .i64 0) := (by rw [Lib.cell_of_heap z1.out]; rfl); have ga4 : wz.cell? ⟨gb127, 4, none⟩ = some (.int .i64 0) := (by rw [Lib.cell_of_heap z1.out]; rfl); have ga5 : wz.cell? ⟨gb127, 5, none⟩ = some (.int .i64 0) := (by rw [Lib.cell_of_heap z1.out]; rfl); have ga6 : wz.cell? ⟨gb127, 6, none⟩ = some (.slice Av ([] : List S29).length cv) := (by rw [Lib.cell_of_heap z1.out]; rfl); clear hdr) | (clear S9; go_at_call 25; refine (barrowref24_Equal.calls kF 0 0 0 0 0 0 Av cv [] 0 0 0 0 0 0 none 0 [] true _ (Kd.R_reads' z7.out).2.2 (Kd.R_reads' z7.out).2.1 ⟨rfl, Nat.zero_le _, fun h => absurd h (by simp)⟩ (Nat.le_refl _) HF.out).mono ?_; rintro e w60 ⟨rfl, hbb⟩; have y3 := Aside0.mk (below_step z3.out hbb); clear hbb) | go_in)
      go_ret
      exact ⟨rfl, y3.out⟩
end Go.Proofs.YtlmdhpfggobogaaDoor.G
