import Derived.Test.YtlmdhpfggobogaaDoorQSq24
import Derived.Test.YtlmdhpfggobogaaDoorQSq25
import Derived.Test.YtlmdhpfggobogaaDoorQSq5
import Derived.Test.YtlmdhpfggobogaaDoorQSq10
import Derived.Test.YtlmdhpfggobogaaDoorQSq27
namespace Go.Proofs.YtlmdhpfggobogaaDoor.G
open Go.RowKit Go.Proofs.YtlmdhpfggobogaaDoorW.PrintWords Go.Proofs.YtlmdhpfggobogaaDoorW.PrintLast Go.Proofs.YtlmdhpfggobogaaDoorW.PrintMore
set_option linter.unusedVariables false
def readN : Nat → List ByteArray → S23 → Option S23
  | _, [], h => some h
  | i, x :: xs, h => match numR x with
    | some v => readN (i + 1) xs (setH h i v)
    | none => none
def headN (x : ByteArray) (xs : List ByteArray) : Int × Int × Int × Int × Int × Int × Bool :=
  if xs.length = 6 then (if (x.toList == storeB.toList) = true then outH (readN 0 xs zeroH) else outH none) else outH none
def barrowref24_head.f (l : List ByteArray) : Option (Int × Int × Int × Int × Int × Int × Bool) :=
  match l with
  | [] => some (outH none)
  | x :: xs => some (headN x xs)
theorem numberOf_in (s : ByteArray) (w : World) : Calls Tryd.prog 62 #[.string s] w fun e w' => e = .returned (.tuple #[.int .i64 (outN (numR s)).1, .bool (outN (numR s)).2]) ∧ Drawn0 w w' := by
  obtain ⟨k, hk⟩ := (numberOf_ev s).rounds
  exact barrowref24_numberOf.calls k s _ _ w hk
theorem head_no (l : List ByteArray) (h : l.length ≠ 7) : barrowref24_head.f l = some (outH none) := by
  cases l with
  | nil => rfl
  | cons x xs =>
    show some (headN x xs) = _
    unfold headN
    rw [if_neg (by simp only [List.length_cons] at h; omega)]
theorem readN_next (i : Nat) (xs : List ByteArray) (h : S23) (hi : i < xs.length) : readN i (xs.drop i) h = match numR xs[i] with | some v => readN (i + 1) (xs.drop (i + 1)) (setH h i v) | none => none := by
  rw [List.drop_eq_getElem_cons hi]
  rfl
theorem arr_set (h : S23) (i : Nat) (v : Int) (hi : i < 6) (W : World) (gh : Nat) (hW : W.heap[gh]? = some (.cells (cellsH h) 64 (0, 0))) : (W.setCell ⟨gh, i, none⟩ (.int .i64 v)).heap[gh]? = some (.cells (cellsH (setH h i v)) 64 (0, 0)) := by
  rw [blk_set hW]
  rcases i with _ | _ | _ | _ | _ | _ | i <;> first | rfl | omega
theorem arr_at (h : S23) (i : Nat) (hi : i < 6) : ∃ u, ∀ (W : World) (gh : Nat), W.heap[gh]? = some (.cells (cellsH h) 64 (0, 0)) → W.cell? ⟨gh, i, none⟩ = some u := by
  rcases i with _ | _ | _ | _ | _ | _ | i <;> first | exact ⟨_, fun W gh hW => by rw [Lib.cell_of_heap hW]; rfl⟩ | omega
set_option maxHeartbeats 4000000 in
set_option maxRecDepth 100000 in
theorem barrowref24_head.calls (A0 : Option Addr) (c0 : Nat) (l0 : List ByteArray) (r1 r2 r3 r4 r5 r6 : Int) (r7 : Bool) (w : World) (hr0 : Kd.C Kd.string w A0 l0.length l0) (hc0 : l0.length ≤ c0)
    (h : barrowref24_head.f l0 = some (r1, r2, r3, r4, r5, r6, r7)) :
    Calls Tryd.prog 49 #[.slice A0 l0.length c0] w fun e w' => e = .returned (.tuple #[.agg #[.int .i64 r1, .int .i64 r2, .int .i64 r3, .int .i64 r4, .int .i64 r5, .int .i64 r6], .bool r7]) ∧ Below w.heap.size w w' := by
  have S1 : True := trivial
  have S2 : True := trivial
  have S3 : True := trivial
  by_cases hl : l0.length = 7
  case neg =>
    rw [head_no l0 hl] at h
    have HX := Option.some.inj h
    clear h
    obtain ⟨nL, hn0⟩ : ∃ nL, l0.length = nL := ⟨_, rfl⟩
    rw [hn0] at hl hc0 ⊢
    have hn : ((nL : Int) != 7) = true := bne_iff_ne.mpr (by omega)
    clear hl hr0 hn0
    simp only [outH, Prod.mk.injEq] at HX
    obtain ⟨x0, x1, x2, x3, x4, x5, rfl⟩ := HX
    subst x0; subst x1; subst x2; subst x3; subst x4; subst x5
    go_enter Tryd.func49, Tryd.ntmps49
    go_wp2_with (first | (clear S1; (with_reducible refine gate_dst (N := 2) rfl ?_); refine box_event ?hg (N := 2) ?hd (cs := #[.int .i64 0, .int .i64 0, .int .i64 0, .int .i64 0, .int .i64 0, .int .i64 0]) (t := 23) ?hr ?_; (case hd => rfl); (case hg => rfl); (case hr => first | (go_simp; done) | (go_simp; rfl)); intro gr hgr w1 hbox hb1; have n0 := Aside0.mk hbox; have n1 := Aside0.mk hb1; have n2 := Aside0.mk (show w.heap.size ≤ gr by rw [hgr]; exact Nat.le_refl _);  clear hbox hb1 hgr) | (clear S3; refine st23at (g := gr) rfl rfl rfl rfl rfl (by first | exact n0.out | exact blk_drewN n0.out _) rfl rfl (by first | rfl | (simp [Value.oneCell'])) ?_; intro w5 h5 _ hb5; have p0 := Aside0.mk h5; have p1 := Aside0.mk (hb5 _ _ (by first | exact n1.out | exact pw_below_drewN n1.out _) n2.out); clear h5 hb5) | go_in)
    exact bodyPost_ret (results_ct rfl _ _ gr 23 #[.int .i64 0, .int .i64 0, .int .i64 0, .int .i64 0, .int .i64 0, .int .i64 0] (0, 0) _ rfl p0.out Tryd.underlying23 rfl (by kernel_rfl)) rfl ⟨rfl, p1.out⟩
  cases l0 with
  | nil => cases hl
  | cons x xs =>
    have HX : headN x xs = (r1, r2, r3, r4, r5, r6, r7) := Option.some.inj h
    clear h
    have hxl : xs.length = 6 := by simp only [List.length_cons] at hl; omega
    unfold headN at HX
    rw [if_pos hxl, store_word] at HX
    obtain ⟨ad, eA, _⟩ := Kd.at_string hr0 0 (by omega) (by omega)
    subst eA
    have HC := Aside0.mk (fun W (hb : Below w.heap.size w W) => cells_of_string (Kd.C_below hr0 hb))
    clear hr0
    obtain ⟨nL, hn0⟩ : ∃ nL, (x :: xs).length = nL := ⟨_, rfl⟩
    rw [hn0] at hl hc0 ⊢
    have hn : ((nL : Int) != 7) = false := bne_eq_false_iff_eq.mpr (by omega)
    have HL := Aside0.mk hl
    have HXL := Aside0.mk hxl
    have hpos : 0 < nL := by omega
    clear hl hxl hn0
    by_cases hx : x.toList = [115, 116, 111, 114, 101]
    case neg =>
      rw [if_neg (by rw [beq_eq_false_iff_ne.mpr hx]; decide)] at HX
      have hxn : (!(x.toList == [115, 116, 111, 114, 101])) = true := by rw [beq_eq_false_iff_ne.mpr hx]; rfl
      simp only [outH, Prod.mk.injEq] at HX
      obtain ⟨x0, x1, x2, x3, x4, x5, rfl⟩ := HX
      subst x0; subst x1; subst x2; subst x3; subst x4; subst x5
      go_enter Tryd.func49, Tryd.ntmps49
      go_wp2_with (first | (clear S1; (with_reducible refine gate_dst (N := 2) rfl ?_); refine box_event ?hg (N := 2) ?hd (cs := #[.int .i64 0, .int .i64 0, .int .i64 0, .int .i64 0, .int .i64 0, .int .i64 0]) (t := 23) ?hr ?_; (case hd => rfl); (case hg => rfl); (case hr => first | (go_simp; done) | (go_simp; rfl)); intro gr hgr w1 hbox hb1; have n0 := Aside0.mk hbox; have n1 := Aside0.mk hb1; have n2 := Aside0.mk (show w.heap.size ≤ gr by rw [hgr]; exact Nat.le_refl _); have hcell : w1.cell? ad = some (.string x) := HC.out w1 n1.out 0 x rfl; clear hbox hb1 hgr) | (clear S3; refine st23at (g := gr) rfl rfl rfl rfl rfl (by first | exact n0.out | exact blk_drewN n0.out _) rfl rfl (by first | rfl | (simp [Value.oneCell'])) ?_; intro w5 h5 _ hb5; have p0 := Aside0.mk h5; have p1 := Aside0.mk (hb5 _ _ (by first | exact n1.out | exact pw_below_drewN n1.out _) n2.out); clear h5 hb5) | go_in)
      exact bodyPost_ret (results_ct rfl _ _ gr 23 #[.int .i64 0, .int .i64 0, .int .i64 0, .int .i64 0, .int .i64 0, .int .i64 0] (0, 0) _ rfl p0.out Tryd.underlying23 rfl (by kernel_rfl)) rfl ⟨rfl, p1.out⟩
    rw [if_pos (beq_iff_eq.mpr hx)] at HX
    have hxn : (!(x.toList == [115, 116, 111, 114, 101])) = false := by rw [beq_iff_eq.mpr hx]; rfl
    have HE := Aside0.mk HX
    clear HX
    go_enter Tryd.func49, Tryd.ntmps49
    go_wp2_with (first | (clear S1; (with_reducible refine gate_dst (N := 2) rfl ?_); refine box_event ?hg (N := 2) ?hd (cs := #[.int .i64 0, .int .i64 0, .int .i64 0, .int .i64 0, .int .i64 0, .int .i64 0]) (t := 23) ?hr ?_; (case hd => rfl); (case hg => rfl); (case hr => first | (go_simp; done) | (go_simp; rfl)); intro gr hgr w1 hbox hb1; have n0 := Aside0.mk hbox; have n1 := Aside0.mk hb1; have n2 := Aside0.mk (show w.heap.size ≤ gr by rw [hgr]; exact Nat.le_refl _); have hcell : w1.cell? ad = some (.string x) := HC.out w1 n1.out 0 x rfl; clear hbox hb1 hgr) | (clear S2; (with_reducible refine gate_dst (N := 4) rfl ?_); refine box_event ?hg (N := 4) ?hd (cs := #[.int .i64 0, .int .i64 0, .int .i64 0, .int .i64 0, .int .i64 0, .int .i64 0]) (t := 64) ?hr ?_; (case hd => rfl); (case hg => rfl); (case hr => first | (go_simp; done) | (go_simp; rfl)); intro gh hgh w2 hbox hb2; have n3 := Aside0.mk hbox; have n4 := Aside0.mk (below_step (by first | exact n1.out | exact pw_below_drewN n1.out _) hb2); have n5 := Aside0.mk (blk_below (by first | exact n0.out | exact blk_drewN n0.out _) hb2); have n6 := Aside0.mk (show w.heap.size ≤ gh by rw [hgh]; first | exact n1.out.size | exact (pw_below_drewN n1.out _).size); have n7 := Aside0.mk (show gr ≠ gh by rw [hgh]; first | exact Nat.ne_of_lt (blk_lt n0.out) | exact Nat.ne_of_lt (blk_lt (blk_drewN n0.out _))); clear hbox hb2 hgh) | go_in)
    go_loopw [5] (fun v5 wr => ∃ (i : Nat) (hh : S23), v5 = .int .i64 i ∧ i ≤ 6 ∧ Aside0 (outH (readN i (xs.drop i) hh) = (r1, r2, r3, r4, r5, r6, r7)) ∧ Aside0 (wr.heap[gh]? = some (.cells (cellsH hh) 64 (0, 0))) ∧ Aside0 (wr.heap[gr]? = some (.cells #[.int .i64 0, .int .i64 0, .int .i64 0, .int .i64 0, .int .i64 0, .int .i64 0] 23 (0, 0))) ∧ Aside0 (Below w.heap.size w wr)) (fun v5 _ => 6 - toN v5)
    case atStart => exact ⟨0, zeroH, rfl, by omega, HE, n3, n5, n4⟩
    case round =>
      obtain ⟨i, hh, rfl, hi, HR, RH, RZ, RW⟩ := hrel
      clear HE n0 n1 n3 n4 n5 hxn hn
      have S4 : True := trivial
      have S5 : True := trivial
      by_cases h6 : i < 6
      · have hxl := HXL.out
        have hrn := HR.out
        rw [readN_next i xs hh (by omega)] at hrn
        obtain ⟨y, hy⟩ : ∃ y, xs[i] = y := ⟨_, rfl⟩
        rw [hy] at hrn
        have hcy : ∀ W, Below w.heap.size w W → W.cell? ⟨ad.block, ad.off + (i + 1), none⟩ = some (.string y) := fun W hW => by
          have h1 := HC.out W hW (i + 1) y (by rw [List.getElem?_cons_succ, List.getElem?_eq_getElem (by omega), hy])
          have e1 : ad.add (i + 1) = ⟨ad.block, ad.off + (i + 1), none⟩ := by simp [Addr.add]
          rw [e1] at h1; exact h1
        have hcy2 := hcy wr RW.out
        have HRN := Aside0.mk hrn
        have H6 := Aside0.mk h6
        have h6i : ((i : Int) < 6) = True := eq_true (by omega)
        have hw0 := wrap_succ i (by omega)
        have hw1 : wrap64 ((i : Int) + 1) = (i : Int) + 1 := w64 (by omega) (by omega)
        have hw2 : IntKind.i64.wrap ((i : Int) + 1) = (i : Int) + 1 := (i64_w _).trans hw1
        have hpb : (0 ≤ (i : Int) + 1) = True := eq_true (by omega)
        have hpn2 : ((i : Int) + 1 < (nL : Int)) = True := eq_true (by have h2 := HL.out; omega)
        have htn : ((i : Int) + 1).toNat = i + 1 := by omega
        have HNO := Aside0.mk (numberOf_in y)
        clear hy hcy hxl hrn hw0
        cases hnum : numR y with
        | none =>
          rw [hnum] at HNO HRN
          clear hnum
          have HX := HRN.out
          simp only [outH, Prod.mk.injEq] at HX
          obtain ⟨x0, x1, x2, x3, x4, x5, rfl⟩ := HX
          subst x0; subst x1; subst x2; subst x3; subst x4; subst x5
          go_wp2_with (first | (clear S4; go_at_call 62; refine (HNO.out _).mono ?_; rintro e w7 ⟨rfl, hdr⟩; have a1 := Aside0.mk (dr_heap hdr _ RZ.out); have a2 := Aside0.mk (dr_below hdr RW.out); clear hdr) | (clear S5; refine st23at (g := gr) rfl rfl rfl rfl rfl (by first | exact a1.out | exact blk_drewN a1.out _) rfl rfl (by first | rfl | (simp [Value.oneCell'])) ?_; intro w8 h8 hk8 hb8; have z0 := Aside0.mk h8; have z1 := Aside0.mk (hb8 _ _ (by first | exact a2.out | exact pw_below_drewN a2.out _) n2.out); clear h8 hk8 hb8) | go_in)
          exact bodyPost_ret (results_ct rfl _ _ gr 23 #[.int .i64 0, .int .i64 0, .int .i64 0, .int .i64 0, .int .i64 0, .int .i64 0] (0, 0) _ rfl z0.out Tryd.underlying23 rfl (by kernel_rfl)) rfl ⟨rfl, z1.out⟩
        | some v =>
          rw [hnum] at HNO HRN
          clear hnum
          obtain ⟨u, hcl⟩ := arr_at hh i h6
          have HCL := Aside0.mk (fun W => hcl W gh)
          have HSET := Aside0.mk (fun W => arr_set hh i v h6 W gh)
          clear hcl
          go_wp2_with (first | (clear S4; go_at_call 62; refine (HNO.out _).mono ?_; rintro e w7 ⟨rfl, hdr⟩; have a0 := Aside0.mk (dr_heap hdr _ RH.out); have a1 := Aside0.mk (dr_heap hdr _ RZ.out); have a2 := Aside0.mk (dr_below hdr RW.out); have d4 := HCL.out w7 a0.out; have f4 := blk_frozen a0.out i; clear hdr) | go_in)
          go_roundw
          case rel => exact ⟨i + 1, setH hh i v, rfl, by have := H6.out; omega, HRN, ⟨HSET.out _ a0.out⟩, ⟨blk_far a1.out n7.out _⟩, ⟨below_set a2.out n6.out⟩⟩
          case measure => have := H6.out; simp only [toN]; omega
      · obtain rfl : i = 6 := by omega
        have hz := HR.out
        have hxl := HXL.out
        rw [List.drop_eq_nil_of_le (by omega)] at hz
        simp only [readN, outH, Prod.mk.injEq] at hz
        obtain ⟨x0, x1, x2, x3, x4, x5, rfl⟩ := hz
        subst x0; subst x1; subst x2; subst x3; subst x4; subst x5
        have d0 : wr.cell? ⟨gh, 0, none⟩ = some (.int .i64 hh.f0) := by rw [Lib.cell_of_heap RH.out]; rfl
        have d1 : wr.cell? ⟨gh, 1, none⟩ = some (.int .i64 hh.f1) := by rw [Lib.cell_of_heap RH.out]; rfl
        have d2 : wr.cell? ⟨gh, 2, none⟩ = some (.int .i64 hh.f2) := by rw [Lib.cell_of_heap RH.out]; rfl
        have d3 : wr.cell? ⟨gh, 3, none⟩ = some (.int .i64 hh.f3) := by rw [Lib.cell_of_heap RH.out]; rfl
        have d4 : wr.cell? ⟨gh, 4, none⟩ = some (.int .i64 hh.f4) := by rw [Lib.cell_of_heap RH.out]; rfl
        have d5 : wr.cell? ⟨gh, 5, none⟩ = some (.int .i64 hh.f5) := by rw [Lib.cell_of_heap RH.out]; rfl
        clear hxl
        go_wp2_with (first | (clear S4; refine st23at (g := gr) rfl rfl rfl rfl rfl (by first | exact RZ.out | exact blk_drewN RZ.out _) rfl rfl (by first | rfl | (simp [Value.oneCell'])) ?_; intro w8 h8 hk8 hb8; have z0 := Aside0.mk h8; have z1 := Aside0.mk (hb8 _ _ (by first | exact RW.out | exact pw_below_drewN RW.out _) n2.out); clear h8 hk8 hb8) | go_in)
        exact bodyPost_ret (results_ct rfl _ _ gr 23 (cellsH hh) (0, 0) _ rfl z0.out Tryd.underlying23 rfl (by kernel_rfl)) rfl ⟨rfl, z1.out⟩
end Go.Proofs.YtlmdhpfggobogaaDoor.G

namespace Go.Proofs.YtlmdhpfggobogaaDoor.G
open Go.RowKit Go.Proofs.YtlmdhpfggobogaaDoorW.PrintWords Go.Proofs.YtlmdhpfggobogaaDoorW.PrintLast Go.Proofs.YtlmdhpfggobogaaDoorW.PrintMore
attribute [local go_sem] max2_int min2_int max_two min_two max_three min_three max_four min_four   -- for this text's walks alone
set_option linter.unusedVariables false
set_option linter.unusedSimpArgs false
mutual
def barrowref24_Parse.l0 : Nat → ByteArray → Bool → Int → Int → Int → Int → Int → Int → Int → Int → Int → List (S29) → Option (Int × Int × Int × Int × Int × Int × (List (S29)) × Int × Int)
 | 0, _, _, _, _, _, _, _, _, _, _, _, _ => none
 | k + 1, x0, x6, x7, x8, x9, x371000, x371001, x371002, x371003, x371004, x371005, x371006 => if x9 ≤ (x0.size : Int) then (if x9 < (x0.size : Int) then (if 0 ≤ x9 then (barrowref24_Parse.j1 k x0 x6 x7 x8 x9 ((bt x0 x9) != 10) x371000 x371001 x371002 x371003 x371004 x371005 x371006) else (none)) else (barrowref24_Parse.j1 k x0 x6 x7 x8 x9 false x371000 x371001 x371002 x371003 x371004 x371005 x371006)) else (if x6 = true then (some (x371000, x371001, x371002, x371003, x371004, x371005, x371006, 0, 0)) else (some (0, 0, 0, 0, 0, 0, ([] : List (S29)), wrap64 (x7 + 1), 17)))
def barrowref24_Parse.j1 : Nat → ByteArray → Bool → Int → Int → Int → Bool → Int → Int → Int → Int → Int → Int → List (S29) → Option (Int × Int × Int × Int × Int × Int × (List (S29)) × Int × Int)
 | 0, _, _, _, _, _, _, _, _, _, _, _, _, _ => none
 | k + 1, x0, x6, x7, x8, x9, x31, x371000, x371001, x371002, x371003, x371004, x371005, x371006 => if x31 = true then (barrowref24_Parse.l0 k x0 x6 x7 x8 (wrap64 (x9 + 1)) x371000 x371001 x371002 x371003 x371004 x371005 x371006) else (if x9 = (x0.size : Int) then (barrowref24_Parse.j2 k x0 x6 x7 x8 x9 (x8 == (x0.size : Int)) x371000 x371001 x371002 x371003 x371004 x371005 x371006) else (barrowref24_Parse.j2 k x0 x6 x7 x8 x9 false x371000 x371001 x371002 x371003 x371004 x371005 x371006))
def barrowref24_Parse.j2 : Nat → ByteArray → Bool → Int → Int → Int → Bool → Int → Int → Int → Int → Int → Int → List (S29) → Option (Int × Int × Int × Int × Int × Int × (List (S29)) × Int × Int)
 | 0, _, _, _, _, _, _, _, _, _, _, _, _, _ => none
 | k + 1, x0, x6, x7, x8, x9, x41, x371000, x371001, x371002, x371003, x371004, x371005, x371006 => if x41 = true then (if x6 = true then (some (x371000, x371001, x371002, x371003, x371004, x371005, x371006, 0, 0)) else (some (0, 0, 0, 0, 0, 0, ([] : List (S29)), wrap64 (x7 + 1), 17))) else (if 0 ≤ x8 then (if x8 ≤ x9 then (if x9 ≤ (x0.size : Int) then ((barrowref24_silent.f k (x0.extract (x8 : Int).toNat (x9 : Int).toNat)).bind fun t371 => (if t371 = true then (barrowref24_Parse.l0 k x0 x6 (wrap64 (x7 + 1)) (wrap64 (x9 + 1)) (wrap64 (x9 + 1)) x371000 x371001 x371002 x371003 x371004 x371005 x371006) else ((barrowref24_cut.f k (x0.extract (x8 : Int).toNat (x9 : Int).toNat)).bind fun bt372 => (if bt372.2 = true then (if x6 = true then ((barrowref24_step.f k bt372.1).bind fun bt376 => (if bt376.2.2.2.2.2.2.2 = true then (if x371006.length < 2199023255552 then (barrowref24_Parse.l0 k x0 x6 (wrap64 (x7 + 1)) (wrap64 (x9 + 1)) (wrap64 (x9 + 1)) x371000 x371001 x371002 x371003 x371004 x371005 (x371006 ++ [(⟨bt376.1, bt376.2.1, bt376.2.2.1, bt376.2.2.2.1, bt376.2.2.2.2.1, bt376.2.2.2.2.2.1, bt376.2.2.2.2.2.2.1⟩ : S29)])) else (none)) else (some (0, 0, 0, 0, 0, 0, ([] : List (S29)), wrap64 (x7 + 1), 17)))) else ((barrowref24_head.f bt372.1).bind fun bt388 => (if bt388.2.2.2.2.2.2 = true then (barrowref24_Parse.l0 k x0 true (wrap64 (x7 + 1)) (wrap64 (x9 + 1)) (wrap64 (x9 + 1)) bt388.1 bt388.2.1 bt388.2.2.1 bt388.2.2.2.1 bt388.2.2.2.2.1 bt388.2.2.2.2.2.1 x371006) else (some (0, 0, 0, 0, 0, 0, ([] : List (S29)), wrap64 (x7 + 1), 17))))) else (some (0, 0, 0, 0, 0, 0, ([] : List (S29)), wrap64 (x7 + 1), 17)))))) else (none)) else (none)) else (none))
end
def barrowref24_Parse.f (k : Nat) (a0 : ByteArray) : Option (Int × Int × Int × Int × Int × Int × (List (S29)) × Int × Int) := barrowref24_Parse.l0 k a0 false 0 0 0 0 0 0 0 0 0 ([] : List (S29))
set_option maxHeartbeats 8000000 in
set_option maxRecDepth 100000 in
theorem barrowref24_Parse.calls (k : Nat) (a0 : ByteArray) (r1 : Int) (r2 : Int) (r3 : Int) (r4 : Int) (r5 : Int) (r6 : Int) (r7 : List (S29)) (r8 : Int) (r9 : Int) (w : World) (h : barrowref24_Parse.f k a0 = some (r1, r2, r3, r4, r5, r6, r7, r8, r9)) :
  Calls Tryd.prog 24 #[.string a0] w fun e w' => ∃ v6_ : Value, e = .returned (.tuple #[.agg #[.int .i64 r1, .int .i64 r2, .int .i64 r3, .int .i64 r4, .int .i64 r5, .int .i64 r6, v6_], .int .i64 r8, .int .i64 r9]) ∧ Kd.R k29 29 w' w.heap.size (fun _ => True) v6_ r7 ∧ Below w.heap.size w w' := by
 have hu26 := Tryd.underlying26
 have hu23 := Tryd.underlying23
 have hu29 := Tryd.underlying29
 have HB := Aside0.mk (Below.refl w.heap.size w)
 have H : (barrowref24_Parse.l0 k a0 false 0 0 0 0 0 0 0 0 0 ([] : List (S29))) = some (r1, r2, r3, r4, r5, r6, r7, r8, r9) := h
 clear h
 have H' := Aside0.mk H
 clear H
 go_enter Tryd.func24, Tryd.ntmps24
 go_wp2_with (first | ((with_reducible refine gate_dst (N := 2) rfl ?_); (try (refine gate_guard (by rfl) ?_; dsimp only)); refine box_event ?hg (N := 2) ?hd (cs := #[.int .i64 0, .int .i64 0, .int .i64 0, .int .i64 0, .int .i64 0, .int .i64 0, .slice none 0 0]) (t := 26) ?hr ?_; (case hd => rfl); (case hg => rfl); (case hr => first | (go_simp; done) | (go_simp; rfl)); intro gb369 hg w2 hbox hb; have n0_ := Aside0.mk (below_step (by repeat (first | (with_reducible first | exact HB.out | apply below_alloc | apply pw_below_drewN | apply below_drew1) | exact HB.out)) hb); have n1_ := Aside0.mk (hbox); have n2_ := Aside0.mk ((by rw [hg]; exact (below_size (by repeat (first | (with_reducible first | exact HB.out | apply below_alloc | apply pw_below_drewN | apply below_drew1) | exact HB.out))) : w.heap.size ≤ gb369)); have n3_ := Aside0.mk ((by rw [hg]; exact (below_size (by repeat (first | (with_reducible first | exact HB.out | apply below_alloc | apply pw_below_drewN | apply below_drew1) | exact HB.out))) : w.heap.size ≤ gb369)); clear HB; have HB := n0_; have BK369 := n1_; have GW369 := n2_; have GE369 := n3_; clear n0_ n1_ n2_ n3_; clear hb hbox hg) | ((with_reducible refine gate_dst (N := 5) rfl ?_); (try (refine gate_guard (by rfl) ?_; dsimp only)); refine box_event ?hg (N := 5) ?hd (cs := #[.int .i64 0, .int .i64 0, .int .i64 0, .int .i64 0, .int .i64 0, .int .i64 0, .slice none 0 0]) (t := 26) ?hr ?_; (case hd => rfl); (case hg => rfl); (case hr => first | (go_simp; done) | (go_simp; rfl)); intro gb370 hg w3 hbox hb; have n0_ := Aside0.mk (blk_below (g := gb369) (o := .cells #[.int .i64 0, .int .i64 0, .int .i64 0, .int .i64 0, .int .i64 0, .int .i64 0, .slice none 0 0] 26 (0, 0)) (by (with_reducible repeat (first | refine blk_drewN ?_ _ | refine blk_drew ?_ | refine blk_alloc ?_ _)); exact BK369.out) hb); have n1_ := Aside0.mk (below_step (by repeat (first | (with_reducible first | exact HB.out | apply below_alloc | apply pw_below_drewN | apply below_drew1 | refine below_set ?_ GE369.out) | exact HB.out)) hb); have n2_ := Aside0.mk (hbox); have n3_ := Aside0.mk ((by rw [hg]; exact (below_size (by repeat (first | (with_reducible first | exact HB.out | apply below_alloc | apply pw_below_drewN | apply below_drew1 | refine below_set ?_ GE369.out) | exact HB.out))) : w.heap.size ≤ gb370)); have n4_ := Aside0.mk ((by rw [hg]; exact (below_size (by repeat (first | (with_reducible first | exact HB.out | apply below_alloc | apply pw_below_drewN | apply below_drew1 | refine below_set ?_ GE369.out) | exact HB.out))) : w.heap.size ≤ gb370)); have n5_ := Aside0.mk ((by rw [hg]; exact Nat.ne_of_lt (blk_lt (g := gb369) (o := .cells #[.int .i64 0, .int .i64 0, .int .i64 0, .int .i64 0, .int .i64 0, .int .i64 0, .slice none 0 0] 26 (0, 0)) (by (with_reducible repeat (first | refine blk_drewN ?_ _ | refine blk_drew ?_ | refine blk_alloc ?_ _)); exact BK369.out)) : gb369 ≠ gb370)); have n6_ := Aside0.mk ((by rw [hg]; exact Nat.ne_of_gt (blk_lt (g := gb369) (o := .cells #[.int .i64 0, .int .i64 0, .int .i64 0, .int .i64 0, .int .i64 0, .int .i64 0, .slice none 0 0] 26 (0, 0)) (by (with_reducible repeat (first | refine blk_drewN ?_ _ | refine blk_drew ?_ | refine blk_alloc ?_ _)); exact BK369.out)) : gb370 ≠ gb369)); clear BK369; clear HB; have BK369 := n0_; have HB := n1_; have BK370 := n2_; have GW370 := n3_; have GE370 := n4_; have NB369_370 := n5_; have NB370_369 := n6_; clear n0_ n1_ n2_ n3_ n4_ n5_ n6_; clear hb hbox hg))
 go_loopg [6, 7, 8, 9] k (fun kq v6 v7 v8 v9 w' => ∃ (x6_1 : Bool) (x7_1 : Int) (x8_1 : Int) (x9_1 : Int) (x370000_1 : Int) (x370001_1 : Int) (x370002_1 : Int) (x370003_1 : Int) (x370004_1 : Int) (x370005_1 : Int) (x371000_1 : Int) (x371001_1 : Int) (x371002_1 : Int) (x371003_1 : Int) (x371004_1 : Int) (x371005_1 : Int) (x371006_1 : List (S29)) (u371006 : Value), v6 = .bool x6_1 ∧ v7 = .int .i64 x7_1 ∧ v8 = .int .i64 x8_1 ∧ v9 = .int .i64 x9_1 ∧ Aside0 (barrowref24_Parse.l0 kq a0 x6_1 x7_1 x8_1 x9_1 x371000_1 x371001_1 x371002_1 x371003_1 x371004_1 x371005_1 x371006_1 = some (r1, r2, r3, r4, r5, r6, r7, r8, r9)) ∧ Aside0 (kq ≤ k) ∧ Aside0 (Kd.R k29 29 w' w.heap.size (fun _ => True) u371006 x371006_1) ∧ Aside0 (w'.heap[gb369]? = some (.cells #[.int .i64 x370000_1, .int .i64 x370001_1, .int .i64 x370002_1, .int .i64 x370003_1, .int .i64 x370004_1, .int .i64 x370005_1, (.slice none 0 0)] 26 (0, 0))) ∧ Aside0 (w'.heap[gb370]? = some (.cells #[.int .i64 x371000_1, .int .i64 x371001_1, .int .i64 x371002_1, .int .i64 x371003_1, .int .i64 x371004_1, .int .i64 x371005_1, u371006] 26 (0, 0))) ∧ Aside0 (Below w.heap.size w w'))
 case atStart => exact ⟨(false), (0), (0), (0), (0), (0), (0), (0), (0), (0), (0), (0), (0), (0), (0), (0), (([] : List (S29))), (.slice none 0 0), (by first | rfl | (simp; done) | (simp [*]; done)), (by first | rfl | (simp; done) | (simp [*]; done)), (by first | rfl | (simp; done) | (simp [*]; done)), (by first | rfl | (simp; done) | (simp [*]; done)), H', ⟨Nat.le_refl _⟩, ⟨by first | exact Kd.R_nil _ _ _ _ _ | exact Kd.N_nil _ _ _ _ _ | exact Kd.V_nil _ _ _ _ _ | exact Kd.Q_nil _ _ _ _ _ | exact Kd.S_nil _ _ _ _ _⟩, ⟨by (with_reducible repeat (first | refine blk_drewN ?_ _ | refine blk_drew ?_ | refine blk_alloc ?_ _)); exact BK369.out⟩, ⟨by (with_reducible repeat (first | refine blk_drewN ?_ _ | refine blk_drew ?_ | refine blk_alloc ?_ _)); exact BK370.out⟩, ⟨by repeat (first | (with_reducible first | exact HB.out | apply below_alloc | apply pw_below_drewN | apply below_drew1 | refine below_set ?_ GE369.out | refine below_set ?_ GE370.out) | exact HB.out)⟩⟩
 case round =>
  clear H'
  try clear c2
  try clear p2
  obtain ⟨x6_1, x7_1, x8_1, x9_1, x370000_1, x370001_1, x370002_1, x370003_1, x370004_1, x370005_1, x371000_1, x371001_1, x371002_1, x371003_1, x371004_1, x371005_1, x371006_1, u371006, rfl, rfl, rfl, rfl, HA, HK1, HO_371006, BK369, BK370, HB⟩ := hrel
  cases gk with
  | zero => exact absurd HA.out (by simp [barrowref24_Parse.l0])
  | succ k1 =>
   have H := HA.out
   clear HA
   simp only [barrowref24_Parse.l0] at H
   by_cases c4 : x9_1 ≤ (a0.size : Int)
   ·rw [if_pos c4] at H
    have c4b0 : decide (x9_1 ≤ (a0.size : Int)) = true := decide_eq_true c4
    clear c4
    have HC5 := Aside0.mk H
    clear H
    go_upto_region 8 with (fail)
    go_cut [31] (fun v31 wc => ∃ (kq : Nat) (x31_4 : Bool), v31 = .bool x31_4 ∧ Aside0 (barrowref24_Parse.j1 kq a0 x6_1 x7_1 x8_1 x9_1 x31_4 x371000_1 x371001_1 x371002_1 x371003_1 x371004_1 x371005_1 x371006_1 = some (r1, r2, r3, r4, r5, r6, r7, r8, r9)) ∧ Aside0 (kq ≤ k1) ∧ Aside0 (Kd.R k29 29 wc w.heap.size (fun _ => True) u371006 x371006_1) ∧ Aside0 (wc.heap[gb369]? = some (.cells #[.int .i64 x370000_1, .int .i64 x370001_1, .int .i64 x370002_1, .int .i64 x370003_1, .int .i64 x370004_1, .int .i64 x370005_1, (.slice none 0 0)] 26 (0, 0))) ∧ Aside0 (wc.heap[gb370]? = some (.cells #[.int .i64 x371000_1, .int .i64 x371001_1, .int .i64 x371002_1, .int .i64 x371003_1, .int .i64 x371004_1, .int .i64 x371005_1, u371006] 26 (0, 0))) ∧ Aside0 (Below w.heap.size w wc))
    case first =>
     have H := HC5.out
     clear HC5
     by_cases c6 : x9_1 < (a0.size : Int)
     ·rw [if_pos c6] at H
      have c6b0 : decide (x9_1 < (a0.size : Int)) = true := decide_eq_true c6
      clear c6
      (first | rw [c6b0] | (simp only [i64_w, i32_w]; rw [c6b0]) | skip)
      by_cases c7 : 0 ≤ x9_1
      ·rw [if_pos c7] at H
       have c7b0 : decide (0 ≤ x9_1) = true := decide_eq_true c7
       clear c7
       have H' := Aside0.mk H
       clear H
       have p8 : 0 ≤ (x9_1 : Int) := of_decide_eq_true (by first | (with_reducible assumption) | assumption)
       have q8 : x9_1 < (a0.size : Int) := of_decide_eq_true (by first | (with_reducible assumption) | assumption)
       have hx8 := bt_at a0 x9_1
       replace p8 := eq_true p8
       replace q8 := eq_true q8
       go_wp2
       go_meet
       case rel => exact ⟨_, (((bt a0 x9_1) != 10)), (by first | rfl | (simp; done) | (simp [*]; done)), H', ⟨by have := HK1.out; first | omega | exact Nat.le_refl _⟩, ⟨by (with_reducible repeat (first | apply Kd.R_alloc | apply Kd.R_drewN | apply Kd.R_drew)); exact HO_371006.out⟩, ⟨by (with_reducible repeat (first | refine blk_drewN ?_ _ | refine blk_drew ?_ | refine blk_alloc ?_ _)); exact BK369.out⟩, ⟨by (with_reducible repeat (first | refine blk_drewN ?_ _ | refine blk_drew ?_ | refine blk_alloc ?_ _)); exact BK370.out⟩, ⟨by repeat (first | (with_reducible first | exact HB.out | apply below_alloc | apply pw_below_drewN | apply below_drew1 | refine below_set ?_ GE369.out | refine below_set ?_ GE370.out) | exact HB.out)⟩⟩
      ·rw [if_neg c7] at H
       exact absurd H (by simp)
     ·rw [if_neg c6] at H
      have c6b0 : decide (x9_1 < (a0.size : Int)) = false := decide_eq_false c6
      clear c6
      (first | rw [c6b0] | (simp only [i64_w, i32_w]; rw [c6b0]) | skip)
      have H' := Aside0.mk H
      clear H
      go_wp2
      go_meet
      case rel => exact ⟨_, (false), (by first | rfl | (simp; done) | (simp [*]; done)), H', ⟨by have := HK1.out; first | omega | exact Nat.le_refl _⟩, ⟨by (with_reducible repeat (first | apply Kd.R_alloc | apply Kd.R_drewN | apply Kd.R_drew)); exact HO_371006.out⟩, ⟨by (with_reducible repeat (first | refine blk_drewN ?_ _ | refine blk_drew ?_ | refine blk_alloc ?_ _)); exact BK369.out⟩, ⟨by (with_reducible repeat (first | refine blk_drewN ?_ _ | refine blk_drew ?_ | refine blk_alloc ?_ _)); exact BK370.out⟩, ⟨by repeat (first | (with_reducible first | exact HB.out | apply below_alloc | apply pw_below_drewN | apply below_drew1 | refine below_set ?_ GE369.out | refine below_set ?_ GE370.out) | exact HB.out)⟩⟩
    case rest =>
     clear HC5
     try clear c2
     try clear p2
     try clear c4
     try clear c4b0
     try clear c6
     try clear c6b0
     try clear c7
     try clear c7b0
     try clear p8
     try clear q8
     try clear hx8
     try clear p2
     try clear p8
     try clear q8
     obtain ⟨kq, x31_4, rfl, HA, HJ4, HO_371006, BK369, BK370, HB⟩ := hcut
     cases kq with
     | zero => exact absurd HA.out (by simp [barrowref24_Parse.j1])
     | succ kj4 =>
      have H := HA.out
      clear HA
      simp only [barrowref24_Parse.j1] at H
      by_cases c9 : x31_4 = true
      ·subst c9
       have H1 : (barrowref24_Parse.l0 kj4 a0 x6_1 x7_1 x8_1 (wrap64 (x9_1 + 1)) x371000_1 x371001_1 x371002_1 x371003_1 x371004_1 x371005_1 x371006_1) = some (r1, r2, r3, r4, r5, r6, r7, r8, r9) := by rw [if_pos rfl] at H; exact H
       clear H
       have H := H1
       clear H1
       have H' := Aside0.mk H
       clear H
       go_wp2
       go_roundg kj4
       case measure => have := HK1.out; have := HJ4.out; omega
       case rel => exact ⟨(x6_1), (x7_1), (x8_1), (wrap64 (x9_1 + 1)), (x370000_1), (x370001_1), (x370002_1), (x370003_1), (x370004_1), (x370005_1), (x371000_1), (x371001_1), (x371002_1), (x371003_1), (x371004_1), (x371005_1), (x371006_1), (u371006), (by first | rfl | (simp; done) | (simp [*]; done)), (by first | rfl | (simp; done) | (simp [*]; done)), (by first | rfl | (simp; done) | (simp [*]; done)), (by first | rfl | (simp; done) | (simp [*]; done)), H', ⟨by have := HK1.out; have := HJ4.out; omega⟩, ⟨by (with_reducible repeat (first | apply Kd.R_alloc | apply Kd.R_drewN | apply Kd.R_drew)); exact HO_371006.out⟩, ⟨by (with_reducible repeat (first | refine blk_drewN ?_ _ | refine blk_drew ?_ | refine blk_alloc ?_ _)); exact BK369.out⟩, ⟨by (with_reducible repeat (first | refine blk_drewN ?_ _ | refine blk_drew ?_ | refine blk_alloc ?_ _)); exact BK370.out⟩, ⟨by repeat (first | (with_reducible first | exact HB.out | apply below_alloc | apply pw_below_drewN | apply below_drew1 | refine below_set ?_ GE369.out | refine below_set ?_ GE370.out) | exact HB.out)⟩⟩
      ·replace c9 := Bool.eq_false_iff.mpr c9
       subst c9
       have H1 : (if x9_1 = (a0.size : Int) then (barrowref24_Parse.j2 kj4 a0 x6_1 x7_1 x8_1 x9_1 (x8_1 == (a0.size : Int)) x371000_1 x371001_1 x371002_1 x371003_1 x371004_1 x371005_1 x371006_1) else (barrowref24_Parse.j2 kj4 a0 x6_1 x7_1 x8_1 x9_1 false x371000_1 x371001_1 x371002_1 x371003_1 x371004_1 x371005_1 x371006_1)) = some (r1, r2, r3, r4, r5, r6, r7, r8, r9) := by rw [if_neg (show ¬ (false = true) by decide)] at H; exact H
       clear H
       have H := H1
       clear H1
       have HC10 := Aside0.mk H
       clear H
       go_upto_region 9 with (fail)
       go_cut [41] (fun v41 wc => ∃ (kq : Nat) (x41_9 : Bool), v41 = .bool x41_9 ∧ Aside0 (barrowref24_Parse.j2 kq a0 x6_1 x7_1 x8_1 x9_1 x41_9 x371000_1 x371001_1 x371002_1 x371003_1 x371004_1 x371005_1 x371006_1 = some (r1, r2, r3, r4, r5, r6, r7, r8, r9)) ∧ Aside0 (kq ≤ kj4) ∧ Aside0 (Kd.R k29 29 wc w.heap.size (fun _ => True) u371006 x371006_1) ∧ Aside0 (wc.heap[gb369]? = some (.cells #[.int .i64 x370000_1, .int .i64 x370001_1, .int .i64 x370002_1, .int .i64 x370003_1, .int .i64 x370004_1, .int .i64 x370005_1, (.slice none 0 0)] 26 (0, 0))) ∧ Aside0 (wc.heap[gb370]? = some (.cells #[.int .i64 x371000_1, .int .i64 x371001_1, .int .i64 x371002_1, .int .i64 x371003_1, .int .i64 x371004_1, .int .i64 x371005_1, u371006] 26 (0, 0))) ∧ Aside0 (Below w.heap.size w wc))
       case first =>
        have H := HC10.out
        clear HC10
        by_cases c11 : x9_1 = (a0.size : Int)
        ·rw [if_pos c11] at H
         have c11b0 : (x9_1 == (a0.size : Int)) = true := beq_iff_eq.mpr c11
         have c11b1 : (x9_1 != (a0.size : Int)) = false := bne_eq_false_iff_eq.mpr c11
         clear c11
         (first | rw [c11b0] | (simp only [i64_w, i32_w]; rw [c11b0]) | skip)
         have H' := Aside0.mk H
         clear H
         go_wp2
         go_meet
         case rel => exact ⟨_, ((x8_1 == (a0.size : Int))), (by first | rfl | (simp; done) | (simp [*]; done)), H', ⟨by have := HK1.out; have := HJ4.out; first | omega | exact Nat.le_refl _⟩, ⟨by (with_reducible repeat (first | apply Kd.R_alloc | apply Kd.R_drewN | apply Kd.R_drew)); exact HO_371006.out⟩, ⟨by (with_reducible repeat (first | refine blk_drewN ?_ _ | refine blk_drew ?_ | refine blk_alloc ?_ _)); exact BK369.out⟩, ⟨by (with_reducible repeat (first | refine blk_drewN ?_ _ | refine blk_drew ?_ | refine blk_alloc ?_ _)); exact BK370.out⟩, ⟨by repeat (first | (with_reducible first | exact HB.out | apply below_alloc | apply pw_below_drewN | apply below_drew1 | refine below_set ?_ GE369.out | refine below_set ?_ GE370.out) | exact HB.out)⟩⟩
        ·rw [if_neg c11] at H
         have c11b0 : (x9_1 == (a0.size : Int)) = false := beq_eq_false_iff_ne.mpr c11
         have c11b1 : (x9_1 != (a0.size : Int)) = true := bne_iff_ne.mpr c11
         (first | rw [c11b0] | (simp only [i64_w, i32_w]; rw [c11b0]) | skip)
         have H' := Aside0.mk H
         clear H
         go_wp2
         go_meet
         case rel => exact ⟨_, (false), (by first | rfl | (simp; done) | (simp [*]; done)), H', ⟨by have := HK1.out; have := HJ4.out; first | omega | exact Nat.le_refl _⟩, ⟨by (with_reducible repeat (first | apply Kd.R_alloc | apply Kd.R_drewN | apply Kd.R_drew)); exact HO_371006.out⟩, ⟨by (with_reducible repeat (first | refine blk_drewN ?_ _ | refine blk_drew ?_ | refine blk_alloc ?_ _)); exact BK369.out⟩, ⟨by (with_reducible repeat (first | refine blk_drewN ?_ _ | refine blk_drew ?_ | refine blk_alloc ?_ _)); exact BK370.out⟩, ⟨by repeat (first | (with_reducible first | exact HB.out | apply below_alloc | apply pw_below_drewN | apply below_drew1 | refine below_set ?_ GE369.out | refine below_set ?_ GE370.out) | exact HB.out)⟩⟩
       case rest =>
        clear HC10
        try clear c1
        try clear c2
        try clear p2
        try clear c4
        try clear c4b0
        try clear c6
        try clear c6b0
        try clear p6
        try clear c7
        try clear c7b0
        try clear p8
        try clear q8
        try clear hx8
        try clear c9
        try clear c11
        try clear c11b0
        try clear c11b1
        try clear p2
        try clear p8
        try clear q8
        obtain ⟨kq, x41_9, rfl, HA, HJ9, HO_371006, BK369, BK370, HB⟩ := hcut
        cases kq with
        | zero => exact absurd HA.out (by simp [barrowref24_Parse.j2])
        | succ kj9 =>
         have H := HA.out
         clear HA
         simp only [barrowref24_Parse.j2] at H
         by_cases c12 : x41_9 = true
         ·subst c12
          have H1 : (if x6_1 = true then (some (x371000_1, x371001_1, x371002_1, x371003_1, x371004_1, x371005_1, x371006_1, 0, 0)) else (some (0, 0, 0, 0, 0, 0, ([] : List (S29)), wrap64 (x7_1 + 1), 17))) = some (r1, r2, r3, r4, r5, r6, r7, r8, r9) := by rw [if_pos rfl] at H; exact H
          clear H
          have H := H1
          clear H1
          by_cases c13 : x6_1 = true
          ·subst c13
           have H1 : (some (x371000_1, x371001_1, x371002_1, x371003_1, x371004_1, x371005_1, x371006_1, 0, 0)) = some (r1, r2, r3, r4, r5, r6, r7, r8, r9) := by rw [if_pos rfl] at H; exact H
           clear H
           have H := H1
           clear H1
           simp only [Option.some.injEq, Prod.mk.injEq] at H
           obtain ⟨rfl, rfl, rfl, rfl, rfl, rfl, rfl, rfl, rfl⟩ := H
           have hnb14 := NB370_369.out
           have hnc14 := NB369_370.out
           have hcz15_0 : wc.cell? ⟨gb370, 0, none⟩ = some (.int .i64 x371000_1) := (blk_cell BK370.out 0).trans rfl
           have hcz15_1 : wc.cell? ⟨gb370, 1, none⟩ = some (.int .i64 x371001_1) := (blk_cell BK370.out 1).trans rfl
           have hcz15_2 : wc.cell? ⟨gb370, 2, none⟩ = some (.int .i64 x371002_1) := (blk_cell BK370.out 2).trans rfl
           have hcz15_3 : wc.cell? ⟨gb370, 3, none⟩ = some (.int .i64 x371003_1) := (blk_cell BK370.out 3).trans rfl
           have hcz15_4 : wc.cell? ⟨gb370, 4, none⟩ = some (.int .i64 x371004_1) := (blk_cell BK370.out 4).trans rfl
           have hcz15_5 : wc.cell? ⟨gb370, 5, none⟩ = some (.int .i64 x371005_1) := (blk_cell BK370.out 5).trans rfl
           have hcz15_6 : wc.cell? ⟨gb370, 6, none⟩ = some (u371006) := (blk_cell BK370.out 6).trans rfl
           have hfz15_0 := blk_frozen BK370.out 0
           have hfz15_1 := blk_frozen BK370.out 1
           have hfz15_2 := blk_frozen BK370.out 2
           have hfz15_3 := blk_frozen BK370.out 3
           have hfz15_4 := blk_frozen BK370.out 4
           have hfz15_5 := blk_frozen BK370.out 5
           have hfz15_6 := blk_frozen BK370.out 6
           have hcz16_0 : wc.cell? ⟨gb369, 0, none⟩ = some (.int .i64 x370000_1) := (blk_cell BK369.out 0).trans rfl
           have hcz16_1 : wc.cell? ⟨gb369, 1, none⟩ = some (.int .i64 x370001_1) := (blk_cell BK369.out 1).trans rfl
           have hcz16_2 : wc.cell? ⟨gb369, 2, none⟩ = some (.int .i64 x370002_1) := (blk_cell BK369.out 2).trans rfl
           have hcz16_3 : wc.cell? ⟨gb369, 3, none⟩ = some (.int .i64 x370003_1) := (blk_cell BK369.out 3).trans rfl
           have hcz16_4 : wc.cell? ⟨gb369, 4, none⟩ = some (.int .i64 x370004_1) := (blk_cell BK369.out 4).trans rfl
           have hcz16_5 : wc.cell? ⟨gb369, 5, none⟩ = some (.int .i64 x370005_1) := (blk_cell BK369.out 5).trans rfl
           have hcz16_6 : wc.cell? ⟨gb369, 6, none⟩ = some (.slice none 0 0) := (blk_cell BK369.out 6).trans rfl
           have hfz16_0 := blk_frozen BK369.out 0
           have hfz16_1 := blk_frozen BK369.out 1
           have hfz16_2 := blk_frozen BK369.out 2
           have hfz16_3 := blk_frozen BK369.out 3
           have hfz16_4 := blk_frozen BK369.out 4
           have hfz16_5 := blk_frozen BK369.out 5
           have hfz16_6 := blk_frozen BK369.out 6
           obtain ⟨Ao17, co17, eo17⟩ := Kd.R_slice HO_371006.out
           subst eo17
           go_wp2
           refine bodyPost_ret (results_ctt rfl _ _ gb369 26 #[.int .i64 x371000_1, .int .i64 x371001_1, .int .i64 x371002_1, .int .i64 x371003_1, .int .i64 x371004_1, .int .i64 x371005_1, .slice Ao17 x371006_1.length co17] (0, 0) _ rfl (by (with_reducible repeat (first | refine blk_drewN ?_ _ | refine blk_drew ?_ | refine blk_alloc ?_ _)); refine blk_put (cs := #[.int .i64 x371000_1, .int .i64 x371001_1, .int .i64 x371002_1, .int .i64 x371003_1, .int .i64 x371004_1, .int .i64 x371005_1, .slice none 0 0]) ?_ 6 _ rfl; (with_reducible repeat (first | refine blk_drewN ?_ _ | refine blk_drew ?_ | refine blk_alloc ?_ _)); refine blk_put (cs := #[.int .i64 x371000_1, .int .i64 x371001_1, .int .i64 x371002_1, .int .i64 x371003_1, .int .i64 x371004_1, .int .i64 x370005_1, .slice none 0 0]) ?_ 5 _ rfl; (with_reducible repeat (first | refine blk_drewN ?_ _ | refine blk_drew ?_ | refine blk_alloc ?_ _)); refine blk_put (cs := #[.int .i64 x371000_1, .int .i64 x371001_1, .int .i64 x371002_1, .int .i64 x371003_1, .int .i64 x370004_1, .int .i64 x370005_1, .slice none 0 0]) ?_ 4 _ rfl; (with_reducible repeat (first | refine blk_drewN ?_ _ | refine blk_drew ?_ | refine blk_alloc ?_ _)); refine blk_put (cs := #[.int .i64 x371000_1, .int .i64 x371001_1, .int .i64 x371002_1, .int .i64 x370003_1, .int .i64 x370004_1, .int .i64 x370005_1, .slice none 0 0]) ?_ 3 _ rfl; (with_reducible repeat (first | refine blk_drewN ?_ _ | refine blk_drew ?_ | refine blk_alloc ?_ _)); refine blk_put (cs := #[.int .i64 x371000_1, .int .i64 x371001_1, .int .i64 x370002_1, .int .i64 x370003_1, .int .i64 x370004_1, .int .i64 x370005_1, .slice none 0 0]) ?_ 2 _ rfl; (with_reducible repeat (first | refine blk_drewN ?_ _ | refine blk_drew ?_ | refine blk_alloc ?_ _)); refine blk_put (cs := #[.int .i64 x371000_1, .int .i64 x370001_1, .int .i64 x370002_1, .int .i64 x370003_1, .int .i64 x370004_1, .int .i64 x370005_1, .slice none 0 0]) ?_ 1 _ rfl; (with_reducible repeat (first | refine blk_drewN ?_ _ | refine blk_drew ?_ | refine blk_alloc ?_ _)); refine blk_put (cs := #[.int .i64 x370000_1, .int .i64 x370001_1, .int .i64 x370002_1, .int .i64 x370003_1, .int .i64 x370004_1, .int .i64 x370005_1, .slice none 0 0]) ?_ 0 _ rfl; (with_reducible repeat (first | refine blk_drewN ?_ _ | refine blk_drew ?_ | refine blk_alloc ?_ _)); exact BK369.out) Tryd.underlying26 rfl (by kernel_rfl)) rfl ?_
           exact ⟨_, by first | rfl | (simp [errW_none, errW_some] <;> rfl) | (simp [*, errW_none, errW_some] <;> rfl), by (with_reducible repeat (first | apply Kd.R_alloc | apply Kd.R_drewN | apply Kd.R_drew)); exact Kd.R_mono (Kd.R_far (p := ⟨gb369, 6, none⟩) (Kd.R_far (p := ⟨gb369, 5, none⟩) (Kd.R_far (p := ⟨gb369, 4, none⟩) (Kd.R_far (p := ⟨gb369, 3, none⟩) (Kd.R_far (p := ⟨gb369, 2, none⟩) (Kd.R_far (p := ⟨gb369, 1, none⟩) (Kd.R_far (p := ⟨gb369, 0, none⟩) (Kd.R_types HO_371006.out BK369.out (by decide)) (fun _ hk => hk.2) (.int .i64 x371000_1)) (fun _ hk => hk.2) (.int .i64 x371001_1)) (fun _ hk => hk.2) (.int .i64 x371002_1)) (fun _ hk => hk.2) (.int .i64 x371003_1)) (fun _ hk => hk.2) (.int .i64 x371004_1)) (fun _ hk => hk.2) (.int .i64 x371005_1)) (fun _ hk => hk.2) (.slice Ao17 x371006_1.length co17)) (fun _ hk => trivial), by repeat (first | (with_reducible first | exact HB.out | apply below_alloc | apply pw_below_drewN | apply below_drew1 | refine below_set ?_ GE369.out | refine below_set ?_ GE370.out) | exact HB.out)⟩
          ·replace c13 := Bool.eq_false_iff.mpr c13
           subst c13
           have H1 : (some (0, 0, 0, 0, 0, 0, ([] : List (S29)), wrap64 (x7_1 + 1), 17)) = some (r1, r2, r3, r4, r5, r6, r7, r8, r9) := by rw [if_neg (show ¬ (false = true) by decide)] at H; exact H
           clear H
           have H := H1
           clear H1
           simp only [Option.some.injEq, Prod.mk.injEq] at H
           obtain ⟨rfl, rfl, rfl, rfl, rfl, rfl, rfl, rfl, rfl⟩ := H
           have hnb18 := NB369_370.out
           have hnc18 := NB370_369.out
           have hcz19_0 : wc.cell? ⟨gb369, 0, none⟩ = some (.int .i64 x370000_1) := (blk_cell BK369.out 0).trans rfl
           have hcz19_1 : wc.cell? ⟨gb369, 1, none⟩ = some (.int .i64 x370001_1) := (blk_cell BK369.out 1).trans rfl
           have hcz19_2 : wc.cell? ⟨gb369, 2, none⟩ = some (.int .i64 x370002_1) := (blk_cell BK369.out 2).trans rfl
           have hcz19_3 : wc.cell? ⟨gb369, 3, none⟩ = some (.int .i64 x370003_1) := (blk_cell BK369.out 3).trans rfl
           have hcz19_4 : wc.cell? ⟨gb369, 4, none⟩ = some (.int .i64 x370004_1) := (blk_cell BK369.out 4).trans rfl
           have hcz19_5 : wc.cell? ⟨gb369, 5, none⟩ = some (.int .i64 x370005_1) := (blk_cell BK369.out 5).trans rfl
           have hcz19_6 : wc.cell? ⟨gb369, 6, none⟩ = some (.slice none 0 0) := (blk_cell BK369.out 6).trans rfl
           have hfz19_0 := blk_frozen BK369.out 0
           have hfz19_1 := blk_frozen BK369.out 1
           have hfz19_2 := blk_frozen BK369.out 2
           have hfz19_3 := blk_frozen BK369.out 3
           have hfz19_4 := blk_frozen BK369.out 4
           have hfz19_5 := blk_frozen BK369.out 5
           have hfz19_6 := blk_frozen BK369.out 6
           go_wp2
           refine bodyPost_ret (results_ctt rfl _ _ gb369 26 #[.int .i64 0, .int .i64 0, .int .i64 0, .int .i64 0, .int .i64 0, .int .i64 0, .slice none 0 0] (0, 0) _ rfl (by (with_reducible repeat (first | refine blk_drewN ?_ _ | refine blk_drew ?_ | refine blk_alloc ?_ _)); refine blk_put (cs := #[.int .i64 0, .int .i64 0, .int .i64 0, .int .i64 0, .int .i64 0, .int .i64 0, .slice none 0 0]) ?_ 6 _ rfl; (with_reducible repeat (first | refine blk_drewN ?_ _ | refine blk_drew ?_ | refine blk_alloc ?_ _)); refine blk_put (cs := #[.int .i64 0, .int .i64 0, .int .i64 0, .int .i64 0, .int .i64 0, .int .i64 x370005_1, .slice none 0 0]) ?_ 5 _ rfl; (with_reducible repeat (first | refine blk_drewN ?_ _ | refine blk_drew ?_ | refine blk_alloc ?_ _)); refine blk_put (cs := #[.int .i64 0, .int .i64 0, .int .i64 0, .int .i64 0, .int .i64 x370004_1, .int .i64 x370005_1, .slice none 0 0]) ?_ 4 _ rfl; (with_reducible repeat (first | refine blk_drewN ?_ _ | refine blk_drew ?_ | refine blk_alloc ?_ _)); refine blk_put (cs := #[.int .i64 0, .int .i64 0, .int .i64 0, .int .i64 x370003_1, .int .i64 x370004_1, .int .i64 x370005_1, .slice none 0 0]) ?_ 3 _ rfl; (with_reducible repeat (first | refine blk_drewN ?_ _ | refine blk_drew ?_ | refine blk_alloc ?_ _)); refine blk_put (cs := #[.int .i64 0, .int .i64 0, .int .i64 x370002_1, .int .i64 x370003_1, .int .i64 x370004_1, .int .i64 x370005_1, .slice none 0 0]) ?_ 2 _ rfl; (with_reducible repeat (first | refine blk_drewN ?_ _ | refine blk_drew ?_ | refine blk_alloc ?_ _)); refine blk_put (cs := #[.int .i64 0, .int .i64 x370001_1, .int .i64 x370002_1, .int .i64 x370003_1, .int .i64 x370004_1, .int .i64 x370005_1, .slice none 0 0]) ?_ 1 _ rfl; (with_reducible repeat (first | refine blk_drewN ?_ _ | refine blk_drew ?_ | refine blk_alloc ?_ _)); refine blk_put (cs := #[.int .i64 x370000_1, .int .i64 x370001_1, .int .i64 x370002_1, .int .i64 x370003_1, .int .i64 x370004_1, .int .i64 x370005_1, .slice none 0 0]) ?_ 0 _ rfl; (with_reducible repeat (first | refine blk_drewN ?_ _ | refine blk_drew ?_ | refine blk_alloc ?_ _)); exact BK369.out) Tryd.underlying26 rfl (by kernel_rfl)) rfl ?_
           exact ⟨_, by first | rfl | (simp [errW_none, errW_some] <;> rfl) | (simp [*, errW_none, errW_some] <;> rfl), by first | exact Kd.R_nil _ _ _ _ _ | exact Kd.N_nil _ _ _ _ _ | exact Kd.V_nil _ _ _ _ _ | exact Kd.Q_nil _ _ _ _ _ | exact Kd.S_nil _ _ _ _ _, by repeat (first | (with_reducible first | exact HB.out | apply below_alloc | apply pw_below_drewN | apply below_drew1 | refine below_set ?_ GE369.out | refine below_set ?_ GE370.out) | exact HB.out)⟩
         ·replace c12 := Bool.eq_false_iff.mpr c12
          subst c12
          have H1 : (if 0 ≤ x8_1 then (if x8_1 ≤ x9_1 then (if x9_1 ≤ (a0.size : Int) then ((barrowref24_silent.f kj9 (a0.extract (x8_1 : Int).toNat (x9_1 : Int).toNat)).bind fun t371 => (if t371 = true then (barrowref24_Parse.l0 kj9 a0 x6_1 (wrap64 (x7_1 + 1)) (wrap64 (x9_1 + 1)) (wrap64 (x9_1 + 1)) x371000_1 x371001_1 x371002_1 x371003_1 x371004_1 x371005_1 x371006_1) else ((barrowref24_cut.f kj9 (a0.extract (x8_1 : Int).toNat (x9_1 : Int).toNat)).bind fun bt372 => (if bt372.2 = true then (if x6_1 = true then ((barrowref24_step.f kj9 bt372.1).bind fun bt376 => (if bt376.2.2.2.2.2.2.2 = true then (if x371006_1.length < 2199023255552 then (barrowref24_Parse.l0 kj9 a0 x6_1 (wrap64 (x7_1 + 1)) (wrap64 (x9_1 + 1)) (wrap64 (x9_1 + 1)) x371000_1 x371001_1 x371002_1 x371003_1 x371004_1 x371005_1 (x371006_1 ++ [(⟨bt376.1, bt376.2.1, bt376.2.2.1, bt376.2.2.2.1, bt376.2.2.2.2.1, bt376.2.2.2.2.2.1, bt376.2.2.2.2.2.2.1⟩ : S29)])) else (none)) else (some (0, 0, 0, 0, 0, 0, ([] : List (S29)), wrap64 (x7_1 + 1), 17)))) else ((barrowref24_head.f bt372.1).bind fun bt388 => (if bt388.2.2.2.2.2.2 = true then (barrowref24_Parse.l0 kj9 a0 true (wrap64 (x7_1 + 1)) (wrap64 (x9_1 + 1)) (wrap64 (x9_1 + 1)) bt388.1 bt388.2.1 bt388.2.2.1 bt388.2.2.2.1 bt388.2.2.2.2.1 bt388.2.2.2.2.2.1 x371006_1) else (some (0, 0, 0, 0, 0, 0, ([] : List (S29)), wrap64 (x7_1 + 1), 17))))) else (some (0, 0, 0, 0, 0, 0, ([] : List (S29)), wrap64 (x7_1 + 1), 17)))))) else (none)) else (none)) else (none)) = some (r1, r2, r3, r4, r5, r6, r7, r8, r9) := by rw [if_neg (show ¬ (false = true) by decide)] at H; exact H
          clear H
          have H := H1
          clear H1
          by_cases c20 : 0 ≤ x8_1
          ·rw [if_pos c20] at H
           have c20b0 := eq_true c20
           have c20b1 : decide (0 ≤ x8_1) = true := decide_eq_true c20
           clear c20
           by_cases c21 : x8_1 ≤ x9_1
           ·rw [if_pos c21] at H
            have c21b0 := eq_true c21
            have c21b1 : decide (x8_1 ≤ x9_1) = true := decide_eq_true c21
            clear c21
            by_cases c22 : x9_1 ≤ (a0.size : Int)
            ·rw [if_pos c22] at H
             have c22b0 := eq_true c22
             have c22b1 : decide (x9_1 ≤ (a0.size : Int)) = true := decide_eq_true c22
             clear c22
             replace H := Option.bind_eq_some_iff.mp H
             obtain ⟨t371, A230, H⟩ := H
             replace H : (if t371 = true then (barrowref24_Parse.l0 kj9 a0 x6_1 (wrap64 (x7_1 + 1)) (wrap64 (x9_1 + 1)) (wrap64 (x9_1 + 1)) x371000_1 x371001_1 x371002_1 x371003_1 x371004_1 x371005_1 x371006_1) else ((barrowref24_cut.f kj9 (a0.extract (x8_1 : Int).toNat (x9_1 : Int).toNat)).bind fun bt372 => (if bt372.2 = true then (if x6_1 = true then ((barrowref24_step.f kj9 bt372.1).bind fun bt376 => (if bt376.2.2.2.2.2.2.2 = true then (if x371006_1.length < 2199023255552 then (barrowref24_Parse.l0 kj9 a0 x6_1 (wrap64 (x7_1 + 1)) (wrap64 (x9_1 + 1)) (wrap64 (x9_1 + 1)) x371000_1 x371001_1 x371002_1 x371003_1 x371004_1 x371005_1 (x371006_1 ++ [(⟨bt376.1, bt376.2.1, bt376.2.2.1, bt376.2.2.2.1, bt376.2.2.2.2.1, bt376.2.2.2.2.2.1, bt376.2.2.2.2.2.2.1⟩ : S29)])) else (none)) else (some (0, 0, 0, 0, 0, 0, ([] : List (S29)), wrap64 (x7_1 + 1), 17)))) else ((barrowref24_head.f bt372.1).bind fun bt388 => (if bt388.2.2.2.2.2.2 = true then (barrowref24_Parse.l0 kj9 a0 true (wrap64 (x7_1 + 1)) (wrap64 (x9_1 + 1)) (wrap64 (x9_1 + 1)) bt388.1 bt388.2.1 bt388.2.2.1 bt388.2.2.2.1 bt388.2.2.2.2.1 bt388.2.2.2.2.2.1 x371006_1) else (some (0, 0, 0, 0, 0, 0, ([] : List (S29)), wrap64 (x7_1 + 1), 17))))) else (some (0, 0, 0, 0, 0, 0, ([] : List (S29)), wrap64 (x7_1 + 1), 17))))) = some (r1, r2, r3, r4, r5, r6, r7, r8, r9) := H
             have A23 := Aside0.mk A230
             clear A230
             by_cases c24 : t371 = true
             ·subst c24
              have H1 : (barrowref24_Parse.l0 kj9 a0 x6_1 (wrap64 (x7_1 + 1)) (wrap64 (x9_1 + 1)) (wrap64 (x9_1 + 1)) x371000_1 x371001_1 x371002_1 x371003_1 x371004_1 x371005_1 x371006_1) = some (r1, r2, r3, r4, r5, r6, r7, r8, r9) := by rw [if_pos rfl] at H; exact H
              clear H
              have H := H1
              clear H1
              have H' := Aside0.mk H
              clear H
              go_wp2_with (first | ((with_reducible refine gate_callee (f := 39) rfl ?_); refine goesL_ (some 51) rfl rfl Tryd.func39 (by kernel_rfl) rfl #[.string (a0.extract (x8_1 : Int).toNat (x9_1 : Int).toNat)] rfl (by (try simp only [List.map_toArray, List.map_cons, List.map_nil]); first | done | rfl | (simp only [List.length_drop, List.length_take]; rfl)) ?_; (with_reducible refine (barrowref24_silent.calls kj9 (a0.extract (x8_1 : Int).toNat (x9_1 : Int).toNat) true _ A23.out).mono ?_); rintro e w' ⟨rfl, ⟨nd, rfl⟩⟩; refine ⟨_, rfl, ?_⟩))
              go_roundg kj9
              case measure => have := HK1.out; have := HJ4.out; have := HJ9.out; omega
              case rel => exact ⟨(x6_1), (wrap64 (x7_1 + 1)), (wrap64 (x9_1 + 1)), (wrap64 (x9_1 + 1)), (x370000_1), (x370001_1), (x370002_1), (x370003_1), (x370004_1), (x370005_1), (x371000_1), (x371001_1), (x371002_1), (x371003_1), (x371004_1), (x371005_1), (x371006_1), (u371006), (by first | rfl | (simp; done) | (simp [*]; done)), (by first | rfl | (simp; done) | (simp [*]; done)), (by first | rfl | (simp; done) | (simp [*]; done)), (by first | rfl | (simp; done) | (simp [*]; done)), H', ⟨by have := HK1.out; have := HJ4.out; have := HJ9.out; omega⟩, ⟨by (with_reducible repeat (first | apply Kd.R_alloc | apply Kd.R_drewN | apply Kd.R_drew)); exact HO_371006.out⟩, ⟨by (with_reducible repeat (first | refine blk_drewN ?_ _ | refine blk_drew ?_ | refine blk_alloc ?_ _)); exact BK369.out⟩, ⟨by (with_reducible repeat (first | refine blk_drewN ?_ _ | refine blk_drew ?_ | refine blk_alloc ?_ _)); exact BK370.out⟩, ⟨by repeat (first | (with_reducible first | exact HB.out | apply below_alloc | apply pw_below_drewN | apply below_drew1 | refine below_set ?_ GE369.out | refine below_set ?_ GE370.out) | exact HB.out)⟩⟩
             ·replace c24 := Bool.eq_false_iff.mpr c24
              subst c24
              have H1 : ((barrowref24_cut.f kj9 (a0.extract (x8_1 : Int).toNat (x9_1 : Int).toNat)).bind fun bt372 => (if bt372.2 = true then (if x6_1 = true then ((barrowref24_step.f kj9 bt372.1).bind fun bt376 => (if bt376.2.2.2.2.2.2.2 = true then (if x371006_1.length < 2199023255552 then (barrowref24_Parse.l0 kj9 a0 x6_1 (wrap64 (x7_1 + 1)) (wrap64 (x9_1 + 1)) (wrap64 (x9_1 + 1)) x371000_1 x371001_1 x371002_1 x371003_1 x371004_1 x371005_1 (x371006_1 ++ [(⟨bt376.1, bt376.2.1, bt376.2.2.1, bt376.2.2.2.1, bt376.2.2.2.2.1, bt376.2.2.2.2.2.1, bt376.2.2.2.2.2.2.1⟩ : S29)])) else (none)) else (some (0, 0, 0, 0, 0, 0, ([] : List (S29)), wrap64 (x7_1 + 1), 17)))) else ((barrowref24_head.f bt372.1).bind fun bt388 => (if bt388.2.2.2.2.2.2 = true then (barrowref24_Parse.l0 kj9 a0 true (wrap64 (x7_1 + 1)) (wrap64 (x9_1 + 1)) (wrap64 (x9_1 + 1)) bt388.1 bt388.2.1 bt388.2.2.1 bt388.2.2.2.1 bt388.2.2.2.2.1 bt388.2.2.2.2.2.1 x371006_1) else (some (0, 0, 0, 0, 0, 0, ([] : List (S29)), wrap64 (x7_1 + 1), 17))))) else (some (0, 0, 0, 0, 0, 0, ([] : List (S29)), wrap64 (x7_1 + 1), 17)))) = some (r1, r2, r3, r4, r5, r6, r7, r8, r9) := by rw [if_neg (show ¬ (false = true) by decide)] at H; exact H
              clear H
              have H := H1
              clear H1
              replace H := Option.bind_eq_some_iff.mp H
              obtain ⟨⟨t372, t373⟩, A250, H⟩ := H
              replace H : (if t373 = true then (if x6_1 = true then ((barrowref24_step.f kj9 t372).bind fun bt376 => (if bt376.2.2.2.2.2.2.2 = true then (if x371006_1.length < 2199023255552 then (barrowref24_Parse.l0 kj9 a0 x6_1 (wrap64 (x7_1 + 1)) (wrap64 (x9_1 + 1)) (wrap64 (x9_1 + 1)) x371000_1 x371001_1 x371002_1 x371003_1 x371004_1 x371005_1 (x371006_1 ++ [(⟨bt376.1, bt376.2.1, bt376.2.2.1, bt376.2.2.2.1, bt376.2.2.2.2.1, bt376.2.2.2.2.2.1, bt376.2.2.2.2.2.2.1⟩ : S29)])) else (none)) else (some (0, 0, 0, 0, 0, 0, ([] : List (S29)), wrap64 (x7_1 + 1), 17)))) else ((barrowref24_head.f t372).bind fun bt388 => (if bt388.2.2.2.2.2.2 = true then (barrowref24_Parse.l0 kj9 a0 true (wrap64 (x7_1 + 1)) (wrap64 (x9_1 + 1)) (wrap64 (x9_1 + 1)) bt388.1 bt388.2.1 bt388.2.2.1 bt388.2.2.2.1 bt388.2.2.2.2.1 bt388.2.2.2.2.2.1 x371006_1) else (some (0, 0, 0, 0, 0, 0, ([] : List (S29)), wrap64 (x7_1 + 1), 17))))) else (some (0, 0, 0, 0, 0, 0, ([] : List (S29)), wrap64 (x7_1 + 1), 17))) = some (r1, r2, r3, r4, r5, r6, r7, r8, r9) := H
              have A25 := Aside0.mk A250
              clear A250
              by_cases c26 : t373 = true
              ·subst c26
               have H1 : (if x6_1 = true then ((barrowref24_step.f kj9 t372).bind fun bt376 => (if bt376.2.2.2.2.2.2.2 = true then (if x371006_1.length < 2199023255552 then (barrowref24_Parse.l0 kj9 a0 x6_1 (wrap64 (x7_1 + 1)) (wrap64 (x9_1 + 1)) (wrap64 (x9_1 + 1)) x371000_1 x371001_1 x371002_1 x371003_1 x371004_1 x371005_1 (x371006_1 ++ [(⟨bt376.1, bt376.2.1, bt376.2.2.1, bt376.2.2.2.1, bt376.2.2.2.2.1, bt376.2.2.2.2.2.1, bt376.2.2.2.2.2.2.1⟩ : S29)])) else (none)) else (some (0, 0, 0, 0, 0, 0, ([] : List (S29)), wrap64 (x7_1 + 1), 17)))) else ((barrowref24_head.f t372).bind fun bt388 => (if bt388.2.2.2.2.2.2 = true then (barrowref24_Parse.l0 kj9 a0 true (wrap64 (x7_1 + 1)) (wrap64 (x9_1 + 1)) (wrap64 (x9_1 + 1)) bt388.1 bt388.2.1 bt388.2.2.1 bt388.2.2.2.1 bt388.2.2.2.2.1 bt388.2.2.2.2.2.1 x371006_1) else (some (0, 0, 0, 0, 0, 0, ([] : List (S29)), wrap64 (x7_1 + 1), 17))))) = some (r1, r2, r3, r4, r5, r6, r7, r8, r9) := by rw [if_pos rfl] at H; exact H
               clear H
               have H := H1
               clear H1
               by_cases c27 : x6_1 = true
               ·subst c27
                have H1 : ((barrowref24_step.f kj9 t372).bind fun bt376 => (if bt376.2.2.2.2.2.2.2 = true then (if x371006_1.length < 2199023255552 then (barrowref24_Parse.l0 kj9 a0 true (wrap64 (x7_1 + 1)) (wrap64 (x9_1 + 1)) (wrap64 (x9_1 + 1)) x371000_1 x371001_1 x371002_1 x371003_1 x371004_1 x371005_1 (x371006_1 ++ [(⟨bt376.1, bt376.2.1, bt376.2.2.1, bt376.2.2.2.1, bt376.2.2.2.2.1, bt376.2.2.2.2.2.1, bt376.2.2.2.2.2.2.1⟩ : S29)])) else (none)) else (some (0, 0, 0, 0, 0, 0, ([] : List (S29)), wrap64 (x7_1 + 1), 17)))) = some (r1, r2, r3, r4, r5, r6, r7, r8, r9) := by rw [if_pos rfl] at H; exact H
                clear H
                have H := H1
                clear H1
                replace H := Option.bind_eq_some_iff.mp H
                obtain ⟨⟨t376, t377, t378, t379, t380, t381, t382, t383⟩, A280, H⟩ := H
                replace H : (if t383 = true then (if x371006_1.length < 2199023255552 then (barrowref24_Parse.l0 kj9 a0 true (wrap64 (x7_1 + 1)) (wrap64 (x9_1 + 1)) (wrap64 (x9_1 + 1)) x371000_1 x371001_1 x371002_1 x371003_1 x371004_1 x371005_1 (x371006_1 ++ [(⟨t376, t377, t378, t379, t380, t381, t382⟩ : S29)])) else (none)) else (some (0, 0, 0, 0, 0, 0, ([] : List (S29)), wrap64 (x7_1 + 1), 17))) = some (r1, r2, r3, r4, r5, r6, r7, r8, r9) := H
                have A28 := Aside0.mk A280
                clear A280
                by_cases c29 : t383 = true
                ·subst c29
                 have H1 : (if x371006_1.length < 2199023255552 then (barrowref24_Parse.l0 kj9 a0 true (wrap64 (x7_1 + 1)) (wrap64 (x9_1 + 1)) (wrap64 (x9_1 + 1)) x371000_1 x371001_1 x371002_1 x371003_1 x371004_1 x371005_1 (x371006_1 ++ [(⟨t376, t377, t378, t379, t380, t381, t382⟩ : S29)])) else (none)) = some (r1, r2, r3, r4, r5, r6, r7, r8, r9) := by rw [if_pos rfl] at H; exact H
                 clear H
                 have H := H1
                 clear H1
                 by_cases c30 : x371006_1.length < 2199023255552
                 ·rw [if_pos c30] at H
                  have LMc30 := Aside0.mk c30
                  clear c30
                  obtain ⟨y385, hy385⟩ : ∃ y_ : List (S29), y_ = (x371006_1 ++ [(⟨t376, t377, t378, t379, t380, t381, t382⟩ : S29)]) := ⟨_, rfl⟩
                  replace H : (barrowref24_Parse.l0 kj9 a0 true (wrap64 (x7_1 + 1)) (wrap64 (x9_1 + 1)) (wrap64 (x9_1 + 1)) x371000_1 x371001_1 x371002_1 x371003_1 x371004_1 x371005_1 y385) = some (r1, r2, r3, r4, r5, r6, r7, r8, r9) := by first | (rw [hy385]; with_reducible exact H) | (have H2_ := (Option.bind_some _ _).symm.trans H; rw [hy385]; with_reducible exact H2_) | (have H2_ := (Option.bind_some _ _).symm.trans H; with_reducible exact H2_) | with_reducible exact H | (rw [hy385]; exact H) | exact H
                  have Ny385 := Aside0.mk hy385
                  clear hy385
                  have H' := Aside0.mk H
                  clear H
                  go_wp2_with (first | ((with_reducible refine gate_callee (f := 39) rfl ?_); refine goesL_ (some 51) rfl rfl Tryd.func39 (by kernel_rfl) rfl #[.string (a0.extract (x8_1 : Int).toNat (x9_1 : Int).toNat)] rfl (by (try simp only [List.map_toArray, List.map_cons, List.map_nil]); first | done | rfl | (simp only [List.length_drop, List.length_take]; rfl)) ?_; (with_reducible refine (barrowref24_silent.calls kj9 (a0.extract (x8_1 : Int).toNat (x9_1 : Int).toNat) false _ A23.out).mono ?_); rintro e w' ⟨rfl, ⟨nd, rfl⟩⟩; refine ⟨_, rfl, ?_⟩; (try (rw [drewN_self wc]; generalize hq_ : World.drewN wc _ = wc; have n0_ : Aside0 (Kd.R k29 29 wc w.heap.size (fun _ => True) u371006 x371006_1) := ⟨by rw [← hq_]; exact (by (with_reducible repeat (first | apply Kd.R_alloc | apply Kd.R_drewN | apply Kd.R_drew)); exact HO_371006.out)⟩; have n1_ : Aside0 (wc.heap[gb369]? = some (.cells #[.int .i64 x370000_1, .int .i64 x370001_1, .int .i64 x370002_1, .int .i64 x370003_1, .int .i64 x370004_1, .int .i64 x370005_1, .slice none 0 0] 26 (0, 0))) := ⟨by rw [← hq_]; exact (by (with_reducible repeat (first | refine blk_drewN ?_ _ | refine blk_drew ?_ | refine blk_alloc ?_ _)); exact BK369.out)⟩; have n2_ : Aside0 (wc.heap[gb370]? = some (.cells #[.int .i64 x371000_1, .int .i64 x371001_1, .int .i64 x371002_1, .int .i64 x371003_1, .int .i64 x371004_1, .int .i64 x371005_1, u371006] 26 (0, 0))) := ⟨by rw [← hq_]; exact (by (with_reducible repeat (first | refine blk_drewN ?_ _ | refine blk_drew ?_ | refine blk_alloc ?_ _)); exact BK370.out)⟩; have n3_ : Aside0 (Below w.heap.size w wc) := ⟨by rw [← hq_]; exact (by repeat (first | (with_reducible first | exact HB.out | apply below_alloc | apply pw_below_drewN | apply below_drew1 | refine below_set ?_ GE369.out | refine below_set ?_ GE370.out) | exact HB.out))⟩; clear HO_371006 BK369 BK370 HB hq_; have HO_371006 := n0_; have BK369 := n1_; have BK370 := n2_; have HB := n3_; clear n0_ n1_ n2_ n3_))) | ((with_reducible refine gate_callee (f := 38) rfl ?_); refine goesL_ (some 54) rfl rfl Tryd.func38 (by kernel_rfl) rfl #[.string (a0.extract (x8_1 : Int).toNat (x9_1 : Int).toNat)] rfl (by (try simp only [List.map_toArray, List.map_cons, List.map_nil]); first | done | rfl | (simp only [List.length_drop, List.length_take]; rfl)) ?_; (with_reducible refine (barrowref24_cut.calls kj9 (a0.extract (x8_1 : Int).toNat (x9_1 : Int).toNat) t372 true _ A25.out).mono ?_); rintro e w31 ⟨v374, rfl, ho0, hb⟩; refine ⟨_, rfl, ?_⟩; have n0_ := Aside0.mk (Kd.R_below (by (with_reducible repeat (first | apply Kd.R_alloc | apply Kd.R_drewN | apply Kd.R_drew)); exact HO_371006.out) hb); have n1_ := Aside0.mk (Kd.R_lower ho0 (below_size (by repeat (first | (with_reducible first | exact HB.out | apply below_alloc | apply pw_below_drewN | apply below_drew1 | refine below_set ?_ GE369.out | refine below_set ?_ GE370.out) | exact HB.out)))); have n2_ := Aside0.mk (blk_below (g := gb369) (o := .cells #[.int .i64 x370000_1, .int .i64 x370001_1, .int .i64 x370002_1, .int .i64 x370003_1, .int .i64 x370004_1, .int .i64 x370005_1, .slice none 0 0] 26 (0, 0)) (by (with_reducible repeat (first | refine blk_drewN ?_ _ | refine blk_drew ?_ | refine blk_alloc ?_ _)); exact BK369.out) hb); have n3_ := Aside0.mk (blk_below (g := gb370) (o := .cells #[.int .i64 x371000_1, .int .i64 x371001_1, .int .i64 x371002_1, .int .i64 x371003_1, .int .i64 x371004_1, .int .i64 x371005_1, u371006] 26 (0, 0)) (by (with_reducible repeat (first | refine blk_drewN ?_ _ | refine blk_drew ?_ | refine blk_alloc ?_ _)); exact BK370.out) hb); have n4_ := Aside0.mk (below_step (by repeat (first | (with_reducible first | exact HB.out | apply below_alloc | apply pw_below_drewN | apply below_drew1 | refine below_set ?_ GE369.out | refine below_set ?_ GE370.out) | exact HB.out)) hb); clear HO_371006; clear BK369; clear BK370; clear HB; have HO_371006 := n0_; have HO375 := n1_; have BK369 := n2_; have BK370 := n3_; have HB := n4_; clear n0_ n1_ n2_ n3_ n4_; (try clear hb); (try clear hb2); (try clear hk); (try clear hi); (try clear ho0); obtain ⟨Ao32, co32, eo32⟩ := Kd.R_slice HO375.out; subst eo32) | ((with_reducible refine gate_callee (f := 40) rfl ?_); refine goesL_ (some 76) rfl rfl Tryd.func40 (by kernel_rfl) rfl #[.slice Ao32 t372.length co32] rfl (by (try simp only [List.map_toArray, List.map_cons, List.map_nil]); first | done | rfl | (simp only [List.length_drop, List.length_take]; rfl)) ?_; (with_reducible refine (barrowref24_step.calls kj9 _ _ t372 t376 t377 t378 t379 t380 t381 t382 true _ ?side1 ?side2 A28.out).mono ?_); (case side1 => repeat (first | exact (Kd.R_reads' HO375.out).2.2 | (with_reducible refine Kd.C_alloc ?_ _) | (with_reducible refine Kd.C_drewN ?_ _) | (with_reducible refine Kd.C_drew ?_))); (case side2 => exact (Kd.R_reads' HO375.out).2.1); rintro e w33 ⟨rfl, hb⟩; refine ⟨_, rfl, ?_⟩; have n0_ := Aside0.mk (Kd.R_below (by (with_reducible repeat (first | apply Kd.R_alloc | apply Kd.R_drewN | apply Kd.R_drew)); exact HO_371006.out) hb); have n1_ := Aside0.mk (Kd.R_below (by (with_reducible repeat (first | apply Kd.R_alloc | apply Kd.R_drewN | apply Kd.R_drew)); exact HO375.out) hb); have n2_ := Aside0.mk (blk_below (g := gb369) (o := .cells #[.int .i64 x370000_1, .int .i64 x370001_1, .int .i64 x370002_1, .int .i64 x370003_1, .int .i64 x370004_1, .int .i64 x370005_1, .slice none 0 0] 26 (0, 0)) (by (with_reducible repeat (first | refine blk_drewN ?_ _ | refine blk_drew ?_ | refine blk_alloc ?_ _)); exact BK369.out) hb); have n3_ := Aside0.mk (blk_below (g := gb370) (o := .cells #[.int .i64 x371000_1, .int .i64 x371001_1, .int .i64 x371002_1, .int .i64 x371003_1, .int .i64 x371004_1, .int .i64 x371005_1, u371006] 26 (0, 0)) (by (with_reducible repeat (first | refine blk_drewN ?_ _ | refine blk_drew ?_ | refine blk_alloc ?_ _)); exact BK370.out) hb); have n4_ := Aside0.mk (below_step (by repeat (first | (with_reducible first | exact HB.out | apply below_alloc | apply pw_below_drewN | apply below_drew1 | refine below_set ?_ GE369.out | refine below_set ?_ GE370.out) | exact HB.out)) hb); clear HO_371006; clear HO375; clear BK369; clear BK370; clear HB; have HO_371006 := n0_; have HO375 := n1_; have BK369 := n2_; have BK370 := n3_; have HB := n4_; clear n0_ n1_ n2_ n3_ n4_; (try clear hb); (try clear hb2); (try clear hk); (try clear hi)) | ((with_reducible refine gate_dst (N := 15) rfl ?_); (try (refine gate_guard (by rfl) ?_; dsimp only)); refine box_event ?hg (N := 15) ?hd (cs := #[.int .i64 0, .int .i64 0, .int .i64 0, .int .i64 0, .string (⟨#[]⟩ : ByteArray), .int .i64 0, .int .i64 0]) (t := 29) ?hr ?_; (case hd => rfl); (case hg => rfl); (case hr => first | (go_simp; done) | (go_simp; rfl)); intro gb384 hg w34 hbox hb; have n0_ := Aside0.mk (Kd.R_below (Kd.R_elderB (by (with_reducible repeat (first | apply Kd.R_alloc | apply Kd.R_drewN | apply Kd.R_drew)); exact HO_371006.out) gb384 (Nat.le_of_eq hg.symm)) hb); have n1_ := Aside0.mk (Kd.R_below (by (with_reducible repeat (first | apply Kd.R_alloc | apply Kd.R_drewN | apply Kd.R_drew)); exact HO375.out) hb); have n2_ := Aside0.mk (blk_below (g := gb369) (o := .cells #[.int .i64 x370000_1, .int .i64 x370001_1, .int .i64 x370002_1, .int .i64 x370003_1, .int .i64 x370004_1, .int .i64 x370005_1, .slice none 0 0] 26 (0, 0)) (by (with_reducible repeat (first | refine blk_drewN ?_ _ | refine blk_drew ?_ | refine blk_alloc ?_ _)); exact BK369.out) hb); have n3_ := Aside0.mk (blk_below (g := gb370) (o := .cells #[.int .i64 x371000_1, .int .i64 x371001_1, .int .i64 x371002_1, .int .i64 x371003_1, .int .i64 x371004_1, .int .i64 x371005_1, u371006] 26 (0, 0)) (by (with_reducible repeat (first | refine blk_drewN ?_ _ | refine blk_drew ?_ | refine blk_alloc ?_ _)); exact BK370.out) hb); have n4_ := Aside0.mk (below_step (by repeat (first | (with_reducible first | exact HB.out | apply below_alloc | apply pw_below_drewN | apply below_drew1 | refine below_set ?_ GE369.out | refine below_set ?_ GE370.out) | exact HB.out)) hb); have n5_ := Aside0.mk (hbox); have n6_ := Aside0.mk ((by rw [hg]; exact (below_size (by repeat (first | (with_reducible first | exact HB.out | apply below_alloc | apply pw_below_drewN | apply below_drew1 | refine below_set ?_ GE369.out | refine below_set ?_ GE370.out) | exact HB.out))) : w.heap.size ≤ gb384)); have n7_ := Aside0.mk ((by rw [hg]; exact (below_size (by repeat (first | (with_reducible first | exact HB.out | apply below_alloc | apply pw_below_drewN | apply below_drew1 | refine below_set ?_ GE369.out | refine below_set ?_ GE370.out) | exact HB.out))) : w.heap.size ≤ gb384)); have n8_ := Aside0.mk ((by rw [hg]; exact Nat.ne_of_lt (blk_lt (g := gb369) (o := .cells #[.int .i64 x370000_1, .int .i64 x370001_1, .int .i64 x370002_1, .int .i64 x370003_1, .int .i64 x370004_1, .int .i64 x370005_1, .slice none 0 0] 26 (0, 0)) (by (with_reducible repeat (first | refine blk_drewN ?_ _ | refine blk_drew ?_ | refine blk_alloc ?_ _)); exact BK369.out)) : gb369 ≠ gb384)); have n9_ := Aside0.mk ((by rw [hg]; exact Nat.ne_of_gt (blk_lt (g := gb369) (o := .cells #[.int .i64 x370000_1, .int .i64 x370001_1, .int .i64 x370002_1, .int .i64 x370003_1, .int .i64 x370004_1, .int .i64 x370005_1, .slice none 0 0] 26 (0, 0)) (by (with_reducible repeat (first | refine blk_drewN ?_ _ | refine blk_drew ?_ | refine blk_alloc ?_ _)); exact BK369.out)) : gb384 ≠ gb369)); have n10_ := Aside0.mk ((by rw [hg]; exact Nat.ne_of_lt (blk_lt (g := gb370) (o := .cells #[.int .i64 x371000_1, .int .i64 x371001_1, .int .i64 x371002_1, .int .i64 x371003_1, .int .i64 x371004_1, .int .i64 x371005_1, u371006] 26 (0, 0)) (by (with_reducible repeat (first | refine blk_drewN ?_ _ | refine blk_drew ?_ | refine blk_alloc ?_ _)); exact BK370.out)) : gb370 ≠ gb384)); have n11_ := Aside0.mk ((by rw [hg]; exact Nat.ne_of_gt (blk_lt (g := gb370) (o := .cells #[.int .i64 x371000_1, .int .i64 x371001_1, .int .i64 x371002_1, .int .i64 x371003_1, .int .i64 x371004_1, .int .i64 x371005_1, u371006] 26 (0, 0)) (by (with_reducible repeat (first | refine blk_drewN ?_ _ | refine blk_drew ?_ | refine blk_alloc ?_ _)); exact BK370.out)) : gb384 ≠ gb370)); clear HO_371006; clear HO375; clear BK369; clear BK370; clear HB; have HO_371006 := n0_; have HO375 := n1_; have BK369 := n2_; have BK370 := n3_; have HB := n4_; have BK384 := n5_; have GW384 := n6_; have GE384 := n7_; have NB369_384 := n8_; have NB384_369 := n9_; have NB370_384 := n10_; have NB384_370 := n11_; clear n0_ n1_ n2_ n3_ n4_ n5_ n6_ n7_ n8_ n9_ n10_ n11_; clear hb hbox hg; have hnb35 := NB384_369.out; have hnc35 := NB369_384.out; have hnb36 := NB384_370.out; have hnc36 := NB370_384.out; have hcz37_0 : w34.cell? ⟨gb384, 0, none⟩ = some (.int .i64 0) := (blk_cell BK384.out 0).trans rfl; have hcz37_1 : w34.cell? ⟨gb384, 1, none⟩ = some (.int .i64 0) := (blk_cell BK384.out 1).trans rfl; have hcz37_2 : w34.cell? ⟨gb384, 2, none⟩ = some (.int .i64 0) := (blk_cell BK384.out 2).trans rfl; have hcz37_3 : w34.cell? ⟨gb384, 3, none⟩ = some (.int .i64 0) := (blk_cell BK384.out 3).trans rfl; have hcz37_4 : w34.cell? ⟨gb384, 4, none⟩ = some (.string (⟨#[]⟩ : ByteArray)) := (blk_cell BK384.out 4).trans rfl; have hcz37_5 : w34.cell? ⟨gb384, 5, none⟩ = some (.int .i64 0) := (blk_cell BK384.out 5).trans rfl; have hcz37_6 : w34.cell? ⟨gb384, 6, none⟩ = some (.int .i64 0) := (blk_cell BK384.out 6).trans rfl; have hfz37_0 := blk_frozen BK384.out 0; have hfz37_1 := blk_frozen BK384.out 1; have hfz37_2 := blk_frozen BK384.out 2; have hfz37_3 := blk_frozen BK384.out 3; have hfz37_4 := blk_frozen BK384.out 4; have hfz37_5 := blk_frozen BK384.out 5; have hfz37_6 := blk_frozen BK384.out 6; have hnb38 := NB370_369.out; have hnc38 := NB369_370.out; have hcz39_0 : w34.cell? ⟨gb370, 0, none⟩ = some (.int .i64 x371000_1) := (blk_cell BK370.out 0).trans rfl; have hcz39_1 : w34.cell? ⟨gb370, 1, none⟩ = some (.int .i64 x371001_1) := (blk_cell BK370.out 1).trans rfl; have hcz39_2 : w34.cell? ⟨gb370, 2, none⟩ = some (.int .i64 x371002_1) := (blk_cell BK370.out 2).trans rfl; have hcz39_3 : w34.cell? ⟨gb370, 3, none⟩ = some (.int .i64 x371003_1) := (blk_cell BK370.out 3).trans rfl; have hcz39_4 : w34.cell? ⟨gb370, 4, none⟩ = some (.int .i64 x371004_1) := (blk_cell BK370.out 4).trans rfl; have hcz39_5 : w34.cell? ⟨gb370, 5, none⟩ = some (.int .i64 x371005_1) := (blk_cell BK370.out 5).trans rfl; have hcz39_6 : w34.cell? ⟨gb370, 6, none⟩ = some (u371006) := (blk_cell BK370.out 6).trans rfl; have hfz39_0 := blk_frozen BK370.out 0; have hfz39_1 := blk_frozen BK370.out 1; have hfz39_2 := blk_frozen BK370.out 2; have hfz39_3 := blk_frozen BK370.out 3; have hfz39_4 := blk_frozen BK370.out 4; have hfz39_5 := blk_frozen BK370.out 5; have hfz39_6 := blk_frozen BK370.out 6) | ((with_reducible refine gate_builtin (b := .append) (xs := #[.tmp 84, .tmp 86]) rfl ?_); (try (refine gate_guard (by rfl) ?_; dsimp only)); at_builtin; refine Kd.R_append k29 (w0 := w) w.heap.size rfl (.tmp 84) (.tmp 86) 24 29 (.agg #[(.int .i64 0), (.int .i64 0), (.int .i64 0), (.int .i64 0), (.string ⟨#[]⟩), (.int .i64 0), (.int .i64 0)]) 64 rfl Tryd.underlying24 info29 rfl (by decide) (by omega) u371006 x371006_1 (⟨t376, t377, t378, t379, t380, t381, t382⟩ : S29) [.int .i64 t376, .int .i64 t377, .int .i64 t378, .int .i64 t379, .string t380, .int .i64 t381, .int .i64 t382] (fun k_ => k_ ≠ gb384) (fun _ => False) rfl (by first | (go_simp; done) | (go_simp; rfl)) ?aP (fun _ hk => hk.elim) ?aF ?aO ?aB ?aS ?aL ?_; (case aP => exact k29_mkM _ _ _ (⟨t376, t377, t378, t379, t380, t381, t382⟩ : S29)); (case aB => exact (by repeat (first | (with_reducible first | exact HB.out | apply below_alloc | apply pw_below_drewN | apply below_drew1 | refine below_set ?_ GE369.out | refine below_set ?_ GE370.out | refine below_set ?_ GE384.out) | exact HB.out))); (case aF => exact (fun k_ hk => Kd.freshB (g := gb384) (o := .cells #[.int .i64 t376, .int .i64 t377, .int .i64 t378, .int .i64 t379, .string t380, .int .i64 t381, .int .i64 t382] 29 (0, 0)) (by (with_reducible repeat (first | refine blk_drewN ?_ _ | refine blk_drew ?_ | refine blk_alloc ?_ _)); refine blk_put (cs := #[.int .i64 t376, .int .i64 t377, .int .i64 t378, .int .i64 t379, .string t380, .int .i64 t381, .int .i64 0]) ?_ 6 _ rfl; (with_reducible repeat (first | refine blk_drewN ?_ _ | refine blk_drew ?_ | refine blk_alloc ?_ _)); refine blk_put (cs := #[.int .i64 t376, .int .i64 t377, .int .i64 t378, .int .i64 t379, .string t380, .int .i64 0, .int .i64 0]) ?_ 5 _ rfl; (with_reducible repeat (first | refine blk_drewN ?_ _ | refine blk_drew ?_ | refine blk_alloc ?_ _)); refine blk_put (cs := #[.int .i64 t376, .int .i64 t377, .int .i64 t378, .int .i64 t379, .string (⟨#[]⟩ : ByteArray), .int .i64 0, .int .i64 0]) ?_ 4 _ rfl; (with_reducible repeat (first | refine blk_drewN ?_ _ | refine blk_drew ?_ | refine blk_alloc ?_ _)); refine blk_put (cs := #[.int .i64 t376, .int .i64 t377, .int .i64 t378, .int .i64 0, .string (⟨#[]⟩ : ByteArray), .int .i64 0, .int .i64 0]) ?_ 3 _ rfl; (with_reducible repeat (first | refine blk_drewN ?_ _ | refine blk_drew ?_ | refine blk_alloc ?_ _)); refine blk_put (cs := #[.int .i64 t376, .int .i64 t377, .int .i64 0, .int .i64 0, .string (⟨#[]⟩ : ByteArray), .int .i64 0, .int .i64 0]) ?_ 2 _ rfl; (with_reducible repeat (first | refine blk_drewN ?_ _ | refine blk_drew ?_ | refine blk_alloc ?_ _)); refine blk_put (cs := #[.int .i64 t376, .int .i64 0, .int .i64 0, .int .i64 0, .string (⟨#[]⟩ : ByteArray), .int .i64 0, .int .i64 0]) ?_ 1 _ rfl; (with_reducible repeat (first | refine blk_drewN ?_ _ | refine blk_drew ?_ | refine blk_alloc ?_ _)); refine blk_put (cs := #[.int .i64 0, .int .i64 0, .int .i64 0, .int .i64 0, .string (⟨#[]⟩ : ByteArray), .int .i64 0, .int .i64 0]) ?_ 0 _ rfl; (with_reducible repeat (first | refine blk_drewN ?_ _ | refine blk_drew ?_ | refine blk_alloc ?_ _)); exact BK384.out) k_ hk)); (case aO => exact (by (with_reducible repeat (first | apply Kd.R_alloc | apply Kd.R_drewN | apply Kd.R_drew)); exact Kd.R_mono (Kd.R_far (p := ⟨gb384, 6, none⟩) (Kd.R_far (p := ⟨gb384, 5, none⟩) (Kd.R_far (p := ⟨gb384, 4, none⟩) (Kd.R_far (p := ⟨gb384, 3, none⟩) (Kd.R_far (p := ⟨gb384, 2, none⟩) (Kd.R_far (p := ⟨gb384, 1, none⟩) (Kd.R_far (p := ⟨gb384, 0, none⟩) (Kd.R_mono HO_371006.out (fun k_ hk => (⟨hk, hk.2⟩ : _ ∧ k_ ≠ gb384))) (fun _ hk => hk.2) (.int .i64 t376)) (fun _ hk => hk.2) (.int .i64 t377)) (fun _ hk => hk.2) (.int .i64 t378)) (fun _ hk => hk.2) (.int .i64 t379)) (fun _ hk => hk.2) (.string t380)) (fun _ hk => hk.2) (.int .i64 t381)) (fun _ hk => hk.2) (.int .i64 t382)) (fun _ hk => hk.1.2))); (case aS => exact (below_size (by repeat (first | (with_reducible first | exact HB.out | apply below_alloc | apply pw_below_drewN | apply below_drew1 | refine below_set ?_ GE369.out | refine below_set ?_ GE370.out | refine below_set ?_ GE384.out) | exact HB.out)))); (case aL => have := LMc30.out; omega); intro v386 w40 ho hb hg hat; rw [← Ny385.out] at ho; have n0_ := Aside0.mk (blk_grown (g := gb369) (o := .cells #[.int .i64 x370000_1, .int .i64 x370001_1, .int .i64 x370002_1, .int .i64 x370003_1, .int .i64 x370004_1, .int .i64 x370005_1, .slice none 0 0] 26 (0, 0)) (by (with_reducible repeat (first | refine blk_drewN ?_ _ | refine blk_drew ?_ | refine blk_alloc ?_ _)); refine blk_far ?_ NB369_384.out _; (with_reducible repeat (first | refine blk_drewN ?_ _ | refine blk_drew ?_ | refine blk_alloc ?_ _)); refine blk_far ?_ NB369_384.out _; (with_reducible repeat (first | refine blk_drewN ?_ _ | refine blk_drew ?_ | refine blk_alloc ?_ _)); refine blk_far ?_ NB369_384.out _; (with_reducible repeat (first | refine blk_drewN ?_ _ | refine blk_drew ?_ | refine blk_alloc ?_ _)); refine blk_far ?_ NB369_384.out _; (with_reducible repeat (first | refine blk_drewN ?_ _ | refine blk_drew ?_ | refine blk_alloc ?_ _)); refine blk_far ?_ NB369_384.out _; (with_reducible repeat (first | refine blk_drewN ?_ _ | refine blk_drew ?_ | refine blk_alloc ?_ _)); refine blk_far ?_ NB369_384.out _; (with_reducible repeat (first | refine blk_drewN ?_ _ | refine blk_drew ?_ | refine blk_alloc ?_ _)); refine blk_far ?_ NB369_384.out _; (with_reducible repeat (first | refine blk_drewN ?_ _ | refine blk_drew ?_ | refine blk_alloc ?_ _)); exact BK369.out) hg (Kd.R_ne HO_371006.out BK369.out (by decide))); have n1_ := Aside0.mk (blk_grown (g := gb370) (o := .cells #[.int .i64 x371000_1, .int .i64 x371001_1, .int .i64 x371002_1, .int .i64 x371003_1, .int .i64 x371004_1, .int .i64 x371005_1, u371006] 26 (0, 0)) (by (with_reducible repeat (first | refine blk_drewN ?_ _ | refine blk_drew ?_ | refine blk_alloc ?_ _)); refine blk_far ?_ NB370_384.out _; (with_reducible repeat (first | refine blk_drewN ?_ _ | refine blk_drew ?_ | refine blk_alloc ?_ _)); refine blk_far ?_ NB370_384.out _; (with_reducible repeat (first | refine blk_drewN ?_ _ | refine blk_drew ?_ | refine blk_alloc ?_ _)); refine blk_far ?_ NB370_384.out _; (with_reducible repeat (first | refine blk_drewN ?_ _ | refine blk_drew ?_ | refine blk_alloc ?_ _)); refine blk_far ?_ NB370_384.out _; (with_reducible repeat (first | refine blk_drewN ?_ _ | refine blk_drew ?_ | refine blk_alloc ?_ _)); refine blk_far ?_ NB370_384.out _; (with_reducible repeat (first | refine blk_drewN ?_ _ | refine blk_drew ?_ | refine blk_alloc ?_ _)); refine blk_far ?_ NB370_384.out _; (with_reducible repeat (first | refine blk_drewN ?_ _ | refine blk_drew ?_ | refine blk_alloc ?_ _)); refine blk_far ?_ NB370_384.out _; (with_reducible repeat (first | refine blk_drewN ?_ _ | refine blk_drew ?_ | refine blk_alloc ?_ _)); exact BK370.out) hg (Kd.R_ne HO_371006.out BK370.out (by decide))); have n2_ := Aside0.mk (Kd.R_over' (by (with_reducible repeat (first | apply Kd.R_alloc | apply Kd.R_drewN | apply Kd.R_drew)); exact (Kd.R_mono (Kd.R_far (p := ⟨gb384, 6, none⟩) (Kd.R_far (p := ⟨gb384, 5, none⟩) (Kd.R_far (p := ⟨gb384, 4, none⟩) (Kd.R_far (p := ⟨gb384, 3, none⟩) (Kd.R_far (p := ⟨gb384, 2, none⟩) (Kd.R_far (p := ⟨gb384, 1, none⟩) (Kd.R_far (p := ⟨gb384, 0, none⟩) (Kd.R_types HO375.out BK384.out (by decide)) (fun _ hk => hk.2) (.int .i64 t376)) (fun _ hk => hk.2) (.int .i64 t377)) (fun _ hk => hk.2) (.int .i64 t378)) (fun _ hk => hk.2) (.int .i64 t379)) (fun _ hk => hk.2) (.string t380)) (fun _ hk => hk.2) (.int .i64 t381)) (fun _ hk => hk.2) (.int .i64 t382)) (fun _ h_ => h_.1))) (Kd.R_typed (by (with_reducible repeat (first | apply Kd.R_alloc | apply Kd.R_drewN | apply Kd.R_drew)); exact (Kd.R_mono (Kd.R_far (p := ⟨gb384, 6, none⟩) (Kd.R_far (p := ⟨gb384, 5, none⟩) (Kd.R_far (p := ⟨gb384, 4, none⟩) (Kd.R_far (p := ⟨gb384, 3, none⟩) (Kd.R_far (p := ⟨gb384, 2, none⟩) (Kd.R_far (p := ⟨gb384, 1, none⟩) (Kd.R_far (p := ⟨gb384, 0, none⟩) (Kd.R_mono HO_371006.out (fun k_ hk => (⟨hk, hk.2⟩ : _ ∧ k_ ≠ gb384))) (fun _ hk => hk.2) (.int .i64 t376)) (fun _ hk => hk.2) (.int .i64 t377)) (fun _ hk => hk.2) (.int .i64 t378)) (fun _ hk => hk.2) (.int .i64 t379)) (fun _ hk => hk.2) (.string t380)) (fun _ hk => hk.2) (.int .i64 t381)) (fun _ hk => hk.2) (.int .i64 t382)) (fun _ h_ => h_.1)))) (by decide) hg); have n3_ := Aside0.mk (blk_grown (g := gb384) (o := .cells #[.int .i64 t376, .int .i64 t377, .int .i64 t378, .int .i64 t379, .string t380, .int .i64 t381, .int .i64 t382] 29 (0, 0)) (by (with_reducible repeat (first | refine blk_drewN ?_ _ | refine blk_drew ?_ | refine blk_alloc ?_ _)); refine blk_put (cs := #[.int .i64 t376, .int .i64 t377, .int .i64 t378, .int .i64 t379, .string t380, .int .i64 t381, .int .i64 0]) ?_ 6 _ rfl; (with_reducible repeat (first | refine blk_drewN ?_ _ | refine blk_drew ?_ | refine blk_alloc ?_ _)); refine blk_put (cs := #[.int .i64 t376, .int .i64 t377, .int .i64 t378, .int .i64 t379, .string t380, .int .i64 0, .int .i64 0]) ?_ 5 _ rfl; (with_reducible repeat (first | refine blk_drewN ?_ _ | refine blk_drew ?_ | refine blk_alloc ?_ _)); refine blk_put (cs := #[.int .i64 t376, .int .i64 t377, .int .i64 t378, .int .i64 t379, .string (⟨#[]⟩ : ByteArray), .int .i64 0, .int .i64 0]) ?_ 4 _ rfl; (with_reducible repeat (first | refine blk_drewN ?_ _ | refine blk_drew ?_ | refine blk_alloc ?_ _)); refine blk_put (cs := #[.int .i64 t376, .int .i64 t377, .int .i64 t378, .int .i64 0, .string (⟨#[]⟩ : ByteArray), .int .i64 0, .int .i64 0]) ?_ 3 _ rfl; (with_reducible repeat (first | refine blk_drewN ?_ _ | refine blk_drew ?_ | refine blk_alloc ?_ _)); refine blk_put (cs := #[.int .i64 t376, .int .i64 t377, .int .i64 0, .int .i64 0, .string (⟨#[]⟩ : ByteArray), .int .i64 0, .int .i64 0]) ?_ 2 _ rfl; (with_reducible repeat (first | refine blk_drewN ?_ _ | refine blk_drew ?_ | refine blk_alloc ?_ _)); refine blk_put (cs := #[.int .i64 t376, .int .i64 0, .int .i64 0, .int .i64 0, .string (⟨#[]⟩ : ByteArray), .int .i64 0, .int .i64 0]) ?_ 1 _ rfl; (with_reducible repeat (first | refine blk_drewN ?_ _ | refine blk_drew ?_ | refine blk_alloc ?_ _)); refine blk_put (cs := #[.int .i64 0, .int .i64 0, .int .i64 0, .int .i64 0, .string (⟨#[]⟩ : ByteArray), .int .i64 0, .int .i64 0]) ?_ 0 _ rfl; (with_reducible repeat (first | refine blk_drewN ?_ _ | refine blk_drew ?_ | refine blk_alloc ?_ _)); exact BK384.out) hg (Kd.R_away HO_371006.out (fun _ hk => hk.2))); have n4_ := Aside0.mk (hb); have n5_ := Aside0.mk (ho); clear BK369; clear BK370; clear HO375; clear BK384; clear HB; clear HO_371006; have BK369 := n0_; have BK370 := n1_; have HO375 := n2_; have BK384 := n3_; have HB := n4_; have HO387 := n5_; clear n0_ n1_ n2_ n3_ n4_ n5_; clear ho hb hg hat; obtain ⟨Ao41, co41, eo41⟩ := Kd.R_slice HO387.out; subst eo41; have hcz42_0 : w40.cell? ⟨gb370, 0, none⟩ = some (.int .i64 x371000_1) := (blk_cell BK370.out 0).trans rfl; have hcz42_1 : w40.cell? ⟨gb370, 1, none⟩ = some (.int .i64 x371001_1) := (blk_cell BK370.out 1).trans rfl; have hcz42_2 : w40.cell? ⟨gb370, 2, none⟩ = some (.int .i64 x371002_1) := (blk_cell BK370.out 2).trans rfl; have hcz42_3 : w40.cell? ⟨gb370, 3, none⟩ = some (.int .i64 x371003_1) := (blk_cell BK370.out 3).trans rfl; have hcz42_4 : w40.cell? ⟨gb370, 4, none⟩ = some (.int .i64 x371004_1) := (blk_cell BK370.out 4).trans rfl; have hcz42_5 : w40.cell? ⟨gb370, 5, none⟩ = some (.int .i64 x371005_1) := (blk_cell BK370.out 5).trans rfl; have hcz42_6 : w40.cell? ⟨gb370, 6, none⟩ = some (u371006) := (blk_cell BK370.out 6).trans rfl; have hfz42_0 := blk_frozen BK370.out 0; have hfz42_1 := blk_frozen BK370.out 1; have hfz42_2 := blk_frozen BK370.out 2; have hfz42_3 := blk_frozen BK370.out 3; have hfz42_4 := blk_frozen BK370.out 4; have hfz42_5 := blk_frozen BK370.out 5; have hfz42_6 := blk_frozen BK370.out 6))
                  go_roundg kj9
                  case measure => have := HK1.out; have := HJ4.out; have := HJ9.out; omega
                  case rel => exact ⟨(true), (wrap64 (x7_1 + 1)), (wrap64 (x9_1 + 1)), (wrap64 (x9_1 + 1)), (x370000_1), (x370001_1), (x370002_1), (x370003_1), (x370004_1), (x370005_1), (x371000_1), (x371001_1), (x371002_1), (x371003_1), (x371004_1), (x371005_1), (y385), (.slice Ao41 y385.length co41), (by first | rfl | (simp; done) | (simp [*]; done)), (by first | rfl | (simp; done) | (simp [*]; done)), (by first | rfl | (simp; done) | (simp [*]; done)), (by first | rfl | (simp; done) | (simp [*]; done)), H', ⟨by have := HK1.out; have := HJ4.out; have := HJ9.out; omega⟩, ⟨by (with_reducible repeat (first | apply Kd.R_alloc | apply Kd.R_drewN | apply Kd.R_drew)); exact Kd.R_mono (Kd.R_far (p := ⟨gb370, 6, none⟩) (Kd.R_types HO387.out BK370.out (by decide)) (fun _ hk => hk.2) (.slice Ao41 y385.length co41)) (fun _ hk => trivial)⟩, ⟨by (with_reducible repeat (first | refine blk_drewN ?_ _ | refine blk_drew ?_ | refine blk_alloc ?_ _)); refine blk_far ?_ NB369_370.out _; (with_reducible repeat (first | refine blk_drewN ?_ _ | refine blk_drew ?_ | refine blk_alloc ?_ _)); exact BK369.out⟩, ⟨by (with_reducible repeat (first | refine blk_drewN ?_ _ | refine blk_drew ?_ | refine blk_alloc ?_ _)); refine blk_put (cs := #[.int .i64 x371000_1, .int .i64 x371001_1, .int .i64 x371002_1, .int .i64 x371003_1, .int .i64 x371004_1, .int .i64 x371005_1, u371006]) ?_ 6 _ rfl; (with_reducible repeat (first | refine blk_drewN ?_ _ | refine blk_drew ?_ | refine blk_alloc ?_ _)); exact BK370.out⟩, ⟨by repeat (first | (with_reducible first | exact HB.out | apply below_alloc | apply pw_below_drewN | apply below_drew1 | refine below_set ?_ GE369.out | refine below_set ?_ GE370.out | refine below_set ?_ GE384.out) | exact HB.out)⟩⟩
                 ·rw [if_neg c30] at H
                  exact absurd H (by simp)
                ·replace c29 := Bool.eq_false_iff.mpr c29
                 subst c29
                 have H1 : (some (0, 0, 0, 0, 0, 0, ([] : List (S29)), wrap64 (x7_1 + 1), 17)) = some (r1, r2, r3, r4, r5, r6, r7, r8, r9) := by rw [if_neg (show ¬ (false = true) by decide)] at H; exact H
                 clear H
                 have H := H1
                 clear H1
                 simp only [Option.some.injEq, Prod.mk.injEq] at H
                 obtain ⟨rfl, rfl, rfl, rfl, rfl, rfl, rfl, rfl, rfl⟩ := H
                 go_wp2_with (first | ((with_reducible refine gate_callee (f := 39) rfl ?_); refine goesL_ (some 51) rfl rfl Tryd.func39 (by kernel_rfl) rfl #[.string (a0.extract (x8_1 : Int).toNat (x9_1 : Int).toNat)] rfl (by (try simp only [List.map_toArray, List.map_cons, List.map_nil]); first | done | rfl | (simp only [List.length_drop, List.length_take]; rfl)) ?_; (with_reducible refine (barrowref24_silent.calls kj9 (a0.extract (x8_1 : Int).toNat (x9_1 : Int).toNat) false _ A23.out).mono ?_); rintro e w' ⟨rfl, ⟨nd, rfl⟩⟩; refine ⟨_, rfl, ?_⟩; (try (rw [drewN_self wc]; generalize hq_ : World.drewN wc _ = wc; have n0_ : Aside0 (Kd.R k29 29 wc w.heap.size (fun _ => True) u371006 x371006_1) := ⟨by rw [← hq_]; exact (by (with_reducible repeat (first | apply Kd.R_alloc | apply Kd.R_drewN | apply Kd.R_drew)); exact HO_371006.out)⟩; have n1_ : Aside0 (wc.heap[gb369]? = some (.cells #[.int .i64 x370000_1, .int .i64 x370001_1, .int .i64 x370002_1, .int .i64 x370003_1, .int .i64 x370004_1, .int .i64 x370005_1, .slice none 0 0] 26 (0, 0))) := ⟨by rw [← hq_]; exact (by (with_reducible repeat (first | refine blk_drewN ?_ _ | refine blk_drew ?_ | refine blk_alloc ?_ _)); exact BK369.out)⟩; have n2_ : Aside0 (wc.heap[gb370]? = some (.cells #[.int .i64 x371000_1, .int .i64 x371001_1, .int .i64 x371002_1, .int .i64 x371003_1, .int .i64 x371004_1, .int .i64 x371005_1, u371006] 26 (0, 0))) := ⟨by rw [← hq_]; exact (by (with_reducible repeat (first | refine blk_drewN ?_ _ | refine blk_drew ?_ | refine blk_alloc ?_ _)); exact BK370.out)⟩; have n3_ : Aside0 (Below w.heap.size w wc) := ⟨by rw [← hq_]; exact (by repeat (first | (with_reducible first | exact HB.out | apply below_alloc | apply pw_below_drewN | apply below_drew1 | refine below_set ?_ GE369.out | refine below_set ?_ GE370.out) | exact HB.out))⟩; clear HO_371006 BK369 BK370 HB hq_; have HO_371006 := n0_; have BK369 := n1_; have BK370 := n2_; have HB := n3_; clear n0_ n1_ n2_ n3_))) | ((with_reducible refine gate_callee (f := 38) rfl ?_); refine goesL_ (some 54) rfl rfl Tryd.func38 (by kernel_rfl) rfl #[.string (a0.extract (x8_1 : Int).toNat (x9_1 : Int).toNat)] rfl (by (try simp only [List.map_toArray, List.map_cons, List.map_nil]); first | done | rfl | (simp only [List.length_drop, List.length_take]; rfl)) ?_; (with_reducible refine (barrowref24_cut.calls kj9 (a0.extract (x8_1 : Int).toNat (x9_1 : Int).toNat) t372 true _ A25.out).mono ?_); rintro e w43 ⟨v374, rfl, ho0, hb⟩; refine ⟨_, rfl, ?_⟩; have n0_ := Aside0.mk (Kd.R_below (by (with_reducible repeat (first | apply Kd.R_alloc | apply Kd.R_drewN | apply Kd.R_drew)); exact HO_371006.out) hb); have n1_ := Aside0.mk (Kd.R_lower ho0 (below_size (by repeat (first | (with_reducible first | exact HB.out | apply below_alloc | apply pw_below_drewN | apply below_drew1 | refine below_set ?_ GE369.out | refine below_set ?_ GE370.out) | exact HB.out)))); have n2_ := Aside0.mk (blk_below (g := gb369) (o := .cells #[.int .i64 x370000_1, .int .i64 x370001_1, .int .i64 x370002_1, .int .i64 x370003_1, .int .i64 x370004_1, .int .i64 x370005_1, .slice none 0 0] 26 (0, 0)) (by (with_reducible repeat (first | refine blk_drewN ?_ _ | refine blk_drew ?_ | refine blk_alloc ?_ _)); exact BK369.out) hb); have n3_ := Aside0.mk (blk_below (g := gb370) (o := .cells #[.int .i64 x371000_1, .int .i64 x371001_1, .int .i64 x371002_1, .int .i64 x371003_1, .int .i64 x371004_1, .int .i64 x371005_1, u371006] 26 (0, 0)) (by (with_reducible repeat (first | refine blk_drewN ?_ _ | refine blk_drew ?_ | refine blk_alloc ?_ _)); exact BK370.out) hb); have n4_ := Aside0.mk (below_step (by repeat (first | (with_reducible first | exact HB.out | apply below_alloc | apply pw_below_drewN | apply below_drew1 | refine below_set ?_ GE369.out | refine below_set ?_ GE370.out) | exact HB.out)) hb); clear HO_371006; clear BK369; clear BK370; clear HB; have HO_371006 := n0_; have HO375 := n1_; have BK369 := n2_; have BK370 := n3_; have HB := n4_; clear n0_ n1_ n2_ n3_ n4_; (try clear hb); (try clear hb2); (try clear hk); (try clear hi); (try clear ho0); obtain ⟨Ao44, co44, eo44⟩ := Kd.R_slice HO375.out; subst eo44) | ((with_reducible refine gate_callee (f := 40) rfl ?_); refine goesL_ (some 76) rfl rfl Tryd.func40 (by kernel_rfl) rfl #[.slice Ao44 t372.length co44] rfl (by (try simp only [List.map_toArray, List.map_cons, List.map_nil]); first | done | rfl | (simp only [List.length_drop, List.length_take]; rfl)) ?_; (with_reducible refine (barrowref24_step.calls kj9 _ _ t372 t376 t377 t378 t379 t380 t381 t382 false _ ?side1 ?side2 A28.out).mono ?_); (case side1 => repeat (first | exact (Kd.R_reads' HO375.out).2.2 | (with_reducible refine Kd.C_alloc ?_ _) | (with_reducible refine Kd.C_drewN ?_ _) | (with_reducible refine Kd.C_drew ?_))); (case side2 => exact (Kd.R_reads' HO375.out).2.1); rintro e w45 ⟨rfl, hb⟩; refine ⟨_, rfl, ?_⟩; have n0_ := Aside0.mk (Kd.R_below (by (with_reducible repeat (first | apply Kd.R_alloc | apply Kd.R_drewN | apply Kd.R_drew)); exact HO_371006.out) hb); have n1_ := Aside0.mk (Kd.R_below (by (with_reducible repeat (first | apply Kd.R_alloc | apply Kd.R_drewN | apply Kd.R_drew)); exact HO375.out) hb); have n2_ := Aside0.mk (blk_below (g := gb369) (o := .cells #[.int .i64 x370000_1, .int .i64 x370001_1, .int .i64 x370002_1, .int .i64 x370003_1, .int .i64 x370004_1, .int .i64 x370005_1, .slice none 0 0] 26 (0, 0)) (by (with_reducible repeat (first | refine blk_drewN ?_ _ | refine blk_drew ?_ | refine blk_alloc ?_ _)); exact BK369.out) hb); have n3_ := Aside0.mk (blk_below (g := gb370) (o := .cells #[.int .i64 x371000_1, .int .i64 x371001_1, .int .i64 x371002_1, .int .i64 x371003_1, .int .i64 x371004_1, .int .i64 x371005_1, u371006] 26 (0, 0)) (by (with_reducible repeat (first | refine blk_drewN ?_ _ | refine blk_drew ?_ | refine blk_alloc ?_ _)); exact BK370.out) hb); have n4_ := Aside0.mk (below_step (by repeat (first | (with_reducible first | exact HB.out | apply below_alloc | apply pw_below_drewN | apply below_drew1 | refine below_set ?_ GE369.out | refine below_set ?_ GE370.out) | exact HB.out)) hb); clear HO_371006; clear HO375; clear BK369; clear BK370; clear HB; have HO_371006 := n0_; have HO375 := n1_; have BK369 := n2_; have BK370 := n3_; have HB := n4_; clear n0_ n1_ n2_ n3_ n4_; (try clear hb); (try clear hb2); (try clear hk); (try clear hi)) | ((with_reducible refine gate_dst (N := 15) rfl ?_); (try (refine gate_guard (by rfl) ?_; dsimp only)); refine box_event ?hg (N := 15) ?hd (cs := #[.int .i64 0, .int .i64 0, .int .i64 0, .int .i64 0, .string (⟨#[]⟩ : ByteArray), .int .i64 0, .int .i64 0]) (t := 29) ?hr ?_; (case hd => rfl); (case hg => rfl); (case hr => first | (go_simp; done) | (go_simp; rfl)); intro gb384 hg w46 hbox hb; have n0_ := Aside0.mk (Kd.R_below (Kd.R_elderB (by (with_reducible repeat (first | apply Kd.R_alloc | apply Kd.R_drewN | apply Kd.R_drew)); exact HO_371006.out) gb384 (Nat.le_of_eq hg.symm)) hb); have n1_ := Aside0.mk (Kd.R_below (by (with_reducible repeat (first | apply Kd.R_alloc | apply Kd.R_drewN | apply Kd.R_drew)); exact HO375.out) hb); have n2_ := Aside0.mk (blk_below (g := gb369) (o := .cells #[.int .i64 x370000_1, .int .i64 x370001_1, .int .i64 x370002_1, .int .i64 x370003_1, .int .i64 x370004_1, .int .i64 x370005_1, .slice none 0 0] 26 (0, 0)) (by (with_reducible repeat (first | refine blk_drewN ?_ _ | refine blk_drew ?_ | refine blk_alloc ?_ _)); exact BK369.out) hb); have n3_ := Aside0.mk (blk_below (g := gb370) (o := .cells #[.int .i64 x371000_1, .int .i64 x371001_1, .int .i64 x371002_1, .int .i64 x371003_1, .int .i64 x371004_1, .int .i64 x371005_1, u371006] 26 (0, 0)) (by (with_reducible repeat (first | refine blk_drewN ?_ _ | refine blk_drew ?_ | refine blk_alloc ?_ _)); exact BK370.out) hb); have n4_ := Aside0.mk (below_step (by repeat (first | (with_reducible first | exact HB.out | apply below_alloc | apply pw_below_drewN | apply below_drew1 | refine below_set ?_ GE369.out | refine below_set ?_ GE370.out) | exact HB.out)) hb); have n5_ := Aside0.mk (hbox); have n6_ := Aside0.mk ((by rw [hg]; exact (below_size (by repeat (first | (with_reducible first | exact HB.out | apply below_alloc | apply pw_below_drewN | apply below_drew1 | refine below_set ?_ GE369.out | refine below_set ?_ GE370.out) | exact HB.out))) : w.heap.size ≤ gb384)); have n7_ := Aside0.mk ((by rw [hg]; exact (below_size (by repeat (first | (with_reducible first | exact HB.out | apply below_alloc | apply pw_below_drewN | apply below_drew1 | refine below_set ?_ GE369.out | refine below_set ?_ GE370.out) | exact HB.out))) : w.heap.size ≤ gb384)); have n8_ := Aside0.mk ((by rw [hg]; exact Nat.ne_of_lt (blk_lt (g := gb369) (o := .cells #[.int .i64 x370000_1, .int .i64 x370001_1, .int .i64 x370002_1, .int .i64 x370003_1, .int .i64 x370004_1, .int .i64 x370005_1, .slice none 0 0] 26 (0, 0)) (by (with_reducible repeat (first | refine blk_drewN ?_ _ | refine blk_drew ?_ | refine blk_alloc ?_ _)); exact BK369.out)) : gb369 ≠ gb384)); have n9_ := Aside0.mk ((by rw [hg]; exact Nat.ne_of_gt (blk_lt (g := gb369) (o := .cells #[.int .i64 x370000_1, .int .i64 x370001_1, .int .i64 x370002_1, .int .i64 x370003_1, .int .i64 x370004_1, .int .i64 x370005_1, .slice none 0 0] 26 (0, 0)) (by (with_reducible repeat (first | refine blk_drewN ?_ _ | refine blk_drew ?_ | refine blk_alloc ?_ _)); exact BK369.out)) : gb384 ≠ gb369)); have n10_ := Aside0.mk ((by rw [hg]; exact Nat.ne_of_lt (blk_lt (g := gb370) (o := .cells #[.int .i64 x371000_1, .int .i64 x371001_1, .int .i64 x371002_1, .int .i64 x371003_1, .int .i64 x371004_1, .int .i64 x371005_1, u371006] 26 (0, 0)) (by (with_reducible repeat (first | refine blk_drewN ?_ _ | refine blk_drew ?_ | refine blk_alloc ?_ _)); exact BK370.out)) : gb370 ≠ gb384)); have n11_ := Aside0.mk ((by rw [hg]; exact Nat.ne_of_gt (blk_lt (g := gb370) (o := .cells #[.int .i64 x371000_1, .int .i64 x371001_1, .int .i64 x371002_1, .int .i64 x371003_1, .int .i64 x371004_1, .int .i64 x371005_1, u371006] 26 (0, 0)) (by (with_reducible repeat (first | refine blk_drewN ?_ _ | refine blk_drew ?_ | refine blk_alloc ?_ _)); exact BK370.out)) : gb384 ≠ gb370)); clear HO_371006; clear HO375; clear BK369; clear BK370; clear HB; have HO_371006 := n0_; have HO375 := n1_; have BK369 := n2_; have BK370 := n3_; have HB := n4_; have BK384 := n5_; have GW384 := n6_; have GE384 := n7_; have NB369_384 := n8_; have NB384_369 := n9_; have NB370_384 := n10_; have NB384_370 := n11_; clear n0_ n1_ n2_ n3_ n4_ n5_ n6_ n7_ n8_ n9_ n10_ n11_; clear hb hbox hg; have hnb47 := NB384_369.out; have hnc47 := NB369_384.out; have hnb48 := NB384_370.out; have hnc48 := NB370_384.out; have hcz49_0 : w46.cell? ⟨gb384, 0, none⟩ = some (.int .i64 0) := (blk_cell BK384.out 0).trans rfl; have hcz49_1 : w46.cell? ⟨gb384, 1, none⟩ = some (.int .i64 0) := (blk_cell BK384.out 1).trans rfl; have hcz49_2 : w46.cell? ⟨gb384, 2, none⟩ = some (.int .i64 0) := (blk_cell BK384.out 2).trans rfl; have hcz49_3 : w46.cell? ⟨gb384, 3, none⟩ = some (.int .i64 0) := (blk_cell BK384.out 3).trans rfl; have hcz49_4 : w46.cell? ⟨gb384, 4, none⟩ = some (.string (⟨#[]⟩ : ByteArray)) := (blk_cell BK384.out 4).trans rfl; have hcz49_5 : w46.cell? ⟨gb384, 5, none⟩ = some (.int .i64 0) := (blk_cell BK384.out 5).trans rfl; have hcz49_6 : w46.cell? ⟨gb384, 6, none⟩ = some (.int .i64 0) := (blk_cell BK384.out 6).trans rfl; have hfz49_0 := blk_frozen BK384.out 0; have hfz49_1 := blk_frozen BK384.out 1; have hfz49_2 := blk_frozen BK384.out 2; have hfz49_3 := blk_frozen BK384.out 3; have hfz49_4 := blk_frozen BK384.out 4; have hfz49_5 := blk_frozen BK384.out 5; have hfz49_6 := blk_frozen BK384.out 6; have hnb50 := NB369_370.out; have hnc50 := NB370_369.out; have hcz51_0 : w46.cell? ⟨gb369, 0, none⟩ = some (.int .i64 x370000_1) := (blk_cell BK369.out 0).trans rfl; have hcz51_1 : w46.cell? ⟨gb369, 1, none⟩ = some (.int .i64 x370001_1) := (blk_cell BK369.out 1).trans rfl; have hcz51_2 : w46.cell? ⟨gb369, 2, none⟩ = some (.int .i64 x370002_1) := (blk_cell BK369.out 2).trans rfl; have hcz51_3 : w46.cell? ⟨gb369, 3, none⟩ = some (.int .i64 x370003_1) := (blk_cell BK369.out 3).trans rfl; have hcz51_4 : w46.cell? ⟨gb369, 4, none⟩ = some (.int .i64 x370004_1) := (blk_cell BK369.out 4).trans rfl; have hcz51_5 : w46.cell? ⟨gb369, 5, none⟩ = some (.int .i64 x370005_1) := (blk_cell BK369.out 5).trans rfl; have hcz51_6 : w46.cell? ⟨gb369, 6, none⟩ = some (.slice none 0 0) := (blk_cell BK369.out 6).trans rfl; have hfz51_0 := blk_frozen BK369.out 0; have hfz51_1 := blk_frozen BK369.out 1; have hfz51_2 := blk_frozen BK369.out 2; have hfz51_3 := blk_frozen BK369.out 3; have hfz51_4 := blk_frozen BK369.out 4; have hfz51_5 := blk_frozen BK369.out 5; have hfz51_6 := blk_frozen BK369.out 6))
                 refine bodyPost_ret (results_ctt rfl _ _ gb369 26 #[.int .i64 0, .int .i64 0, .int .i64 0, .int .i64 0, .int .i64 0, .int .i64 0, .slice none 0 0] (0, 0) _ rfl (by (with_reducible repeat (first | refine blk_drewN ?_ _ | refine blk_drew ?_ | refine blk_alloc ?_ _)); refine blk_put (cs := #[.int .i64 0, .int .i64 0, .int .i64 0, .int .i64 0, .int .i64 0, .int .i64 0, .slice none 0 0]) ?_ 6 _ rfl; (with_reducible repeat (first | refine blk_drewN ?_ _ | refine blk_drew ?_ | refine blk_alloc ?_ _)); refine blk_put (cs := #[.int .i64 0, .int .i64 0, .int .i64 0, .int .i64 0, .int .i64 0, .int .i64 x370005_1, .slice none 0 0]) ?_ 5 _ rfl; (with_reducible repeat (first | refine blk_drewN ?_ _ | refine blk_drew ?_ | refine blk_alloc ?_ _)); refine blk_put (cs := #[.int .i64 0, .int .i64 0, .int .i64 0, .int .i64 0, .int .i64 x370004_1, .int .i64 x370005_1, .slice none 0 0]) ?_ 4 _ rfl; (with_reducible repeat (first | refine blk_drewN ?_ _ | refine blk_drew ?_ | refine blk_alloc ?_ _)); refine blk_put (cs := #[.int .i64 0, .int .i64 0, .int .i64 0, .int .i64 x370003_1, .int .i64 x370004_1, .int .i64 x370005_1, .slice none 0 0]) ?_ 3 _ rfl; (with_reducible repeat (first | refine blk_drewN ?_ _ | refine blk_drew ?_ | refine blk_alloc ?_ _)); refine blk_put (cs := #[.int .i64 0, .int .i64 0, .int .i64 x370002_1, .int .i64 x370003_1, .int .i64 x370004_1, .int .i64 x370005_1, .slice none 0 0]) ?_ 2 _ rfl; (with_reducible repeat (first | refine blk_drewN ?_ _ | refine blk_drew ?_ | refine blk_alloc ?_ _)); refine blk_put (cs := #[.int .i64 0, .int .i64 x370001_1, .int .i64 x370002_1, .int .i64 x370003_1, .int .i64 x370004_1, .int .i64 x370005_1, .slice none 0 0]) ?_ 1 _ rfl; (with_reducible repeat (first | refine blk_drewN ?_ _ | refine blk_drew ?_ | refine blk_alloc ?_ _)); refine blk_put (cs := #[.int .i64 x370000_1, .int .i64 x370001_1, .int .i64 x370002_1, .int .i64 x370003_1, .int .i64 x370004_1, .int .i64 x370005_1, .slice none 0 0]) ?_ 0 _ rfl; (with_reducible repeat (first | refine blk_drewN ?_ _ | refine blk_drew ?_ | refine blk_alloc ?_ _)); refine blk_far ?_ NB369_384.out _; (with_reducible repeat (first | refine blk_drewN ?_ _ | refine blk_drew ?_ | refine blk_alloc ?_ _)); refine blk_far ?_ NB369_384.out _; (with_reducible repeat (first | refine blk_drewN ?_ _ | refine blk_drew ?_ | refine blk_alloc ?_ _)); refine blk_far ?_ NB369_384.out _; (with_reducible repeat (first | refine blk_drewN ?_ _ | refine blk_drew ?_ | refine blk_alloc ?_ _)); refine blk_far ?_ NB369_384.out _; (with_reducible repeat (first | refine blk_drewN ?_ _ | refine blk_drew ?_ | refine blk_alloc ?_ _)); refine blk_far ?_ NB369_384.out _; (with_reducible repeat (first | refine blk_drewN ?_ _ | refine blk_drew ?_ | refine blk_alloc ?_ _)); refine blk_far ?_ NB369_384.out _; (with_reducible repeat (first | refine blk_drewN ?_ _ | refine blk_drew ?_ | refine blk_alloc ?_ _)); refine blk_far ?_ NB369_384.out _; (with_reducible repeat (first | refine blk_drewN ?_ _ | refine blk_drew ?_ | refine blk_alloc ?_ _)); exact BK369.out) Tryd.underlying26 rfl (by kernel_rfl)) rfl ?_
                 exact ⟨_, by first | rfl | (simp [errW_none, errW_some] <;> rfl) | (simp [*, errW_none, errW_some] <;> rfl), by first | exact Kd.R_nil _ _ _ _ _ | exact Kd.N_nil _ _ _ _ _ | exact Kd.V_nil _ _ _ _ _ | exact Kd.Q_nil _ _ _ _ _ | exact Kd.S_nil _ _ _ _ _, by repeat (first | (with_reducible first | exact HB.out | apply below_alloc | apply pw_below_drewN | apply below_drew1 | refine below_set ?_ GE369.out | refine below_set ?_ GE370.out | refine below_set ?_ GE384.out) | exact HB.out)⟩
               ·replace c27 := Bool.eq_false_iff.mpr c27
                subst c27
                have H1 : ((barrowref24_head.f t372).bind fun bt388 => (if bt388.2.2.2.2.2.2 = true then (barrowref24_Parse.l0 kj9 a0 true (wrap64 (x7_1 + 1)) (wrap64 (x9_1 + 1)) (wrap64 (x9_1 + 1)) bt388.1 bt388.2.1 bt388.2.2.1 bt388.2.2.2.1 bt388.2.2.2.2.1 bt388.2.2.2.2.2.1 x371006_1) else (some (0, 0, 0, 0, 0, 0, ([] : List (S29)), wrap64 (x7_1 + 1), 17)))) = some (r1, r2, r3, r4, r5, r6, r7, r8, r9) := by rw [if_neg (show ¬ (false = true) by decide)] at H; exact H
                clear H
                have H := H1
                clear H1
                replace H := Option.bind_eq_some_iff.mp H
                obtain ⟨⟨t388, t389, t390, t391, t392, t393, t394⟩, A520, H⟩ := H
                replace H : (if t394 = true then (barrowref24_Parse.l0 kj9 a0 true (wrap64 (x7_1 + 1)) (wrap64 (x9_1 + 1)) (wrap64 (x9_1 + 1)) t388 t389 t390 t391 t392 t393 x371006_1) else (some (0, 0, 0, 0, 0, 0, ([] : List (S29)), wrap64 (x7_1 + 1), 17))) = some (r1, r2, r3, r4, r5, r6, r7, r8, r9) := H
                have A52 := Aside0.mk A520
                clear A520
                by_cases c53 : t394 = true
                ·subst c53
                 have H1 : (barrowref24_Parse.l0 kj9 a0 true (wrap64 (x7_1 + 1)) (wrap64 (x9_1 + 1)) (wrap64 (x9_1 + 1)) t388 t389 t390 t391 t392 t393 x371006_1) = some (r1, r2, r3, r4, r5, r6, r7, r8, r9) := by rw [if_pos rfl] at H; exact H
                 clear H
                 have H := H1
                 clear H1
                 have H' := Aside0.mk H
                 clear H
                 go_wp2_with (first | ((with_reducible refine gate_callee (f := 39) rfl ?_); refine goesL_ (some 51) rfl rfl Tryd.func39 (by kernel_rfl) rfl #[.string (a0.extract (x8_1 : Int).toNat (x9_1 : Int).toNat)] rfl (by (try simp only [List.map_toArray, List.map_cons, List.map_nil]); first | done | rfl | (simp only [List.length_drop, List.length_take]; rfl)) ?_; (with_reducible refine (barrowref24_silent.calls kj9 (a0.extract (x8_1 : Int).toNat (x9_1 : Int).toNat) false _ A23.out).mono ?_); rintro e w' ⟨rfl, ⟨nd, rfl⟩⟩; refine ⟨_, rfl, ?_⟩; (try (rw [drewN_self wc]; generalize hq_ : World.drewN wc _ = wc; have n0_ : Aside0 (Kd.R k29 29 wc w.heap.size (fun _ => True) u371006 x371006_1) := ⟨by rw [← hq_]; exact (by (with_reducible repeat (first | apply Kd.R_alloc | apply Kd.R_drewN | apply Kd.R_drew)); exact HO_371006.out)⟩; have n1_ : Aside0 (wc.heap[gb369]? = some (.cells #[.int .i64 x370000_1, .int .i64 x370001_1, .int .i64 x370002_1, .int .i64 x370003_1, .int .i64 x370004_1, .int .i64 x370005_1, .slice none 0 0] 26 (0, 0))) := ⟨by rw [← hq_]; exact (by (with_reducible repeat (first | refine blk_drewN ?_ _ | refine blk_drew ?_ | refine blk_alloc ?_ _)); exact BK369.out)⟩; have n2_ : Aside0 (wc.heap[gb370]? = some (.cells #[.int .i64 x371000_1, .int .i64 x371001_1, .int .i64 x371002_1, .int .i64 x371003_1, .int .i64 x371004_1, .int .i64 x371005_1, u371006] 26 (0, 0))) := ⟨by rw [← hq_]; exact (by (with_reducible repeat (first | refine blk_drewN ?_ _ | refine blk_drew ?_ | refine blk_alloc ?_ _)); exact BK370.out)⟩; have n3_ : Aside0 (Below w.heap.size w wc) := ⟨by rw [← hq_]; exact (by repeat (first | (with_reducible first | exact HB.out | apply below_alloc | apply pw_below_drewN | apply below_drew1 | refine below_set ?_ GE369.out | refine below_set ?_ GE370.out) | exact HB.out))⟩; clear HO_371006 BK369 BK370 HB hq_; have HO_371006 := n0_; have BK369 := n1_; have BK370 := n2_; have HB := n3_; clear n0_ n1_ n2_ n3_))) | ((with_reducible refine gate_callee (f := 38) rfl ?_); refine goesL_ (some 54) rfl rfl Tryd.func38 (by kernel_rfl) rfl #[.string (a0.extract (x8_1 : Int).toNat (x9_1 : Int).toNat)] rfl (by (try simp only [List.map_toArray, List.map_cons, List.map_nil]); first | done | rfl | (simp only [List.length_drop, List.length_take]; rfl)) ?_; (with_reducible refine (barrowref24_cut.calls kj9 (a0.extract (x8_1 : Int).toNat (x9_1 : Int).toNat) t372 true _ A25.out).mono ?_); rintro e w54 ⟨v374, rfl, ho0, hb⟩; refine ⟨_, rfl, ?_⟩; have n0_ := Aside0.mk (Kd.R_below (by (with_reducible repeat (first | apply Kd.R_alloc | apply Kd.R_drewN | apply Kd.R_drew)); exact HO_371006.out) hb); have n1_ := Aside0.mk (Kd.R_lower ho0 (below_size (by repeat (first | (with_reducible first | exact HB.out | apply below_alloc | apply pw_below_drewN | apply below_drew1 | refine below_set ?_ GE369.out | refine below_set ?_ GE370.out) | exact HB.out)))); have n2_ := Aside0.mk (blk_below (g := gb369) (o := .cells #[.int .i64 x370000_1, .int .i64 x370001_1, .int .i64 x370002_1, .int .i64 x370003_1, .int .i64 x370004_1, .int .i64 x370005_1, .slice none 0 0] 26 (0, 0)) (by (with_reducible repeat (first | refine blk_drewN ?_ _ | refine blk_drew ?_ | refine blk_alloc ?_ _)); exact BK369.out) hb); have n3_ := Aside0.mk (blk_below (g := gb370) (o := .cells #[.int .i64 x371000_1, .int .i64 x371001_1, .int .i64 x371002_1, .int .i64 x371003_1, .int .i64 x371004_1, .int .i64 x371005_1, u371006] 26 (0, 0)) (by (with_reducible repeat (first | refine blk_drewN ?_ _ | refine blk_drew ?_ | refine blk_alloc ?_ _)); exact BK370.out) hb); have n4_ := Aside0.mk (below_step (by repeat (first | (with_reducible first | exact HB.out | apply below_alloc | apply pw_below_drewN | apply below_drew1 | refine below_set ?_ GE369.out | refine below_set ?_ GE370.out) | exact HB.out)) hb); clear HO_371006; clear BK369; clear BK370; clear HB; have HO_371006 := n0_; have HO375 := n1_; have BK369 := n2_; have BK370 := n3_; have HB := n4_; clear n0_ n1_ n2_ n3_ n4_; (try clear hb); (try clear hb2); (try clear hk); (try clear hi); (try clear ho0); obtain ⟨Ao55, co55, eo55⟩ := Kd.R_slice HO375.out; subst eo55) | ((with_reducible refine gate_callee (f := 49) rfl ?_); refine goesL_ (some 65) rfl rfl Tryd.func49 (by kernel_rfl) rfl #[.slice Ao55 t372.length co55] rfl (by (try simp only [List.map_toArray, List.map_cons, List.map_nil]); first | done | rfl | (simp only [List.length_drop, List.length_take]; rfl)) ?_; (with_reducible refine (barrowref24_head.calls _ _ t372 t388 t389 t390 t391 t392 t393 true _ ?side1 ?side2 A52.out).mono ?_); (case side1 => repeat (first | exact (Kd.R_reads' HO375.out).2.2 | (with_reducible refine Kd.C_alloc ?_ _) | (with_reducible refine Kd.C_drewN ?_ _) | (with_reducible refine Kd.C_drew ?_))); (case side2 => exact (Kd.R_reads' HO375.out).2.1); rintro e w56 ⟨rfl, hb⟩; refine ⟨_, rfl, ?_⟩; have n0_ := Aside0.mk (Kd.R_below (by (with_reducible repeat (first | apply Kd.R_alloc | apply Kd.R_drewN | apply Kd.R_drew)); exact HO_371006.out) hb); have n1_ := Aside0.mk (Kd.R_below (by (with_reducible repeat (first | apply Kd.R_alloc | apply Kd.R_drewN | apply Kd.R_drew)); exact HO375.out) hb); have n2_ := Aside0.mk (blk_below (g := gb369) (o := .cells #[.int .i64 x370000_1, .int .i64 x370001_1, .int .i64 x370002_1, .int .i64 x370003_1, .int .i64 x370004_1, .int .i64 x370005_1, .slice none 0 0] 26 (0, 0)) (by (with_reducible repeat (first | refine blk_drewN ?_ _ | refine blk_drew ?_ | refine blk_alloc ?_ _)); exact BK369.out) hb); have n3_ := Aside0.mk (blk_below (g := gb370) (o := .cells #[.int .i64 x371000_1, .int .i64 x371001_1, .int .i64 x371002_1, .int .i64 x371003_1, .int .i64 x371004_1, .int .i64 x371005_1, u371006] 26 (0, 0)) (by (with_reducible repeat (first | refine blk_drewN ?_ _ | refine blk_drew ?_ | refine blk_alloc ?_ _)); exact BK370.out) hb); have n4_ := Aside0.mk (below_step (by repeat (first | (with_reducible first | exact HB.out | apply below_alloc | apply pw_below_drewN | apply below_drew1 | refine below_set ?_ GE369.out | refine below_set ?_ GE370.out) | exact HB.out)) hb); clear HO_371006; clear HO375; clear BK369; clear BK370; clear HB; have HO_371006 := n0_; have HO375 := n1_; have BK369 := n2_; have BK370 := n3_; have HB := n4_; clear n0_ n1_ n2_ n3_ n4_; (try clear hb); (try clear hb2); (try clear hk); (try clear hi)) | ((with_reducible refine gate_dst (N := 13) rfl ?_); (try (refine gate_guard (by rfl) ?_; dsimp only)); refine box_event ?hg (N := 13) ?hd (cs := #[.int .i64 0, .int .i64 0, .int .i64 0, .int .i64 0, .int .i64 0, .int .i64 0]) (t := 23) ?hr ?_; (case hd => rfl); (case hg => rfl); (case hr => first | (go_simp; done) | (go_simp; rfl)); intro gb395 hg w57 hbox hb; have n0_ := Aside0.mk (Kd.R_below (by (with_reducible repeat (first | apply Kd.R_alloc | apply Kd.R_drewN | apply Kd.R_drew)); exact HO_371006.out) hb); have n1_ := Aside0.mk (Kd.R_below (by (with_reducible repeat (first | apply Kd.R_alloc | apply Kd.R_drewN | apply Kd.R_drew)); exact HO375.out) hb); have n2_ := Aside0.mk (blk_below (g := gb369) (o := .cells #[.int .i64 x370000_1, .int .i64 x370001_1, .int .i64 x370002_1, .int .i64 x370003_1, .int .i64 x370004_1, .int .i64 x370005_1, .slice none 0 0] 26 (0, 0)) (by (with_reducible repeat (first | refine blk_drewN ?_ _ | refine blk_drew ?_ | refine blk_alloc ?_ _)); exact BK369.out) hb); have n3_ := Aside0.mk (blk_below (g := gb370) (o := .cells #[.int .i64 x371000_1, .int .i64 x371001_1, .int .i64 x371002_1, .int .i64 x371003_1, .int .i64 x371004_1, .int .i64 x371005_1, u371006] 26 (0, 0)) (by (with_reducible repeat (first | refine blk_drewN ?_ _ | refine blk_drew ?_ | refine blk_alloc ?_ _)); exact BK370.out) hb); have n4_ := Aside0.mk (below_step (by repeat (first | (with_reducible first | exact HB.out | apply below_alloc | apply pw_below_drewN | apply below_drew1 | refine below_set ?_ GE369.out | refine below_set ?_ GE370.out) | exact HB.out)) hb); have n5_ := Aside0.mk (hbox); have n6_ := Aside0.mk ((by rw [hg]; exact (below_size (by repeat (first | (with_reducible first | exact HB.out | apply below_alloc | apply pw_below_drewN | apply below_drew1 | refine below_set ?_ GE369.out | refine below_set ?_ GE370.out) | exact HB.out))) : w.heap.size ≤ gb395)); have n7_ := Aside0.mk ((by rw [hg]; exact (below_size (by repeat (first | (with_reducible first | exact HB.out | apply below_alloc | apply pw_below_drewN | apply below_drew1 | refine below_set ?_ GE369.out | refine below_set ?_ GE370.out) | exact HB.out))) : w.heap.size ≤ gb395)); have n8_ := Aside0.mk ((by rw [hg]; exact Nat.ne_of_lt (blk_lt (g := gb369) (o := .cells #[.int .i64 x370000_1, .int .i64 x370001_1, .int .i64 x370002_1, .int .i64 x370003_1, .int .i64 x370004_1, .int .i64 x370005_1, .slice none 0 0] 26 (0, 0)) (by (with_reducible repeat (first | refine blk_drewN ?_ _ | refine blk_drew ?_ | refine blk_alloc ?_ _)); exact BK369.out)) : gb369 ≠ gb395)); have n9_ := Aside0.mk ((by rw [hg]; exact Nat.ne_of_gt (blk_lt (g := gb369) (o := .cells #[.int .i64 x370000_1, .int .i64 x370001_1, .int .i64 x370002_1, .int .i64 x370003_1, .int .i64 x370004_1, .int .i64 x370005_1, .slice none 0 0] 26 (0, 0)) (by (with_reducible repeat (first | refine blk_drewN ?_ _ | refine blk_drew ?_ | refine blk_alloc ?_ _)); exact BK369.out)) : gb395 ≠ gb369)); have n10_ := Aside0.mk ((by rw [hg]; exact Nat.ne_of_lt (blk_lt (g := gb370) (o := .cells #[.int .i64 x371000_1, .int .i64 x371001_1, .int .i64 x371002_1, .int .i64 x371003_1, .int .i64 x371004_1, .int .i64 x371005_1, u371006] 26 (0, 0)) (by (with_reducible repeat (first | refine blk_drewN ?_ _ | refine blk_drew ?_ | refine blk_alloc ?_ _)); exact BK370.out)) : gb370 ≠ gb395)); have n11_ := Aside0.mk ((by rw [hg]; exact Nat.ne_of_gt (blk_lt (g := gb370) (o := .cells #[.int .i64 x371000_1, .int .i64 x371001_1, .int .i64 x371002_1, .int .i64 x371003_1, .int .i64 x371004_1, .int .i64 x371005_1, u371006] 26 (0, 0)) (by (with_reducible repeat (first | refine blk_drewN ?_ _ | refine blk_drew ?_ | refine blk_alloc ?_ _)); exact BK370.out)) : gb395 ≠ gb370)); clear HO_371006; clear HO375; clear BK369; clear BK370; clear HB; have HO_371006 := n0_; have HO375 := n1_; have BK369 := n2_; have BK370 := n3_; have HB := n4_; have BK395 := n5_; have GW395 := n6_; have GE395 := n7_; have NB369_395 := n8_; have NB395_369 := n9_; have NB370_395 := n10_; have NB395_370 := n11_; clear n0_ n1_ n2_ n3_ n4_ n5_ n6_ n7_ n8_ n9_ n10_ n11_; clear hb hbox hg; have hnb58 := NB395_369.out; have hnc58 := NB369_395.out; have hnb59 := NB395_370.out; have hnc59 := NB370_395.out; have hcz60_0 : w57.cell? ⟨gb395, 0, none⟩ = some (.int .i64 0) := (blk_cell BK395.out 0).trans rfl; have hcz60_1 : w57.cell? ⟨gb395, 1, none⟩ = some (.int .i64 0) := (blk_cell BK395.out 1).trans rfl; have hcz60_2 : w57.cell? ⟨gb395, 2, none⟩ = some (.int .i64 0) := (blk_cell BK395.out 2).trans rfl; have hcz60_3 : w57.cell? ⟨gb395, 3, none⟩ = some (.int .i64 0) := (blk_cell BK395.out 3).trans rfl; have hcz60_4 : w57.cell? ⟨gb395, 4, none⟩ = some (.int .i64 0) := (blk_cell BK395.out 4).trans rfl; have hcz60_5 : w57.cell? ⟨gb395, 5, none⟩ = some (.int .i64 0) := (blk_cell BK395.out 5).trans rfl; have hfz60_0 := blk_frozen BK395.out 0; have hfz60_1 := blk_frozen BK395.out 1; have hfz60_2 := blk_frozen BK395.out 2; have hfz60_3 := blk_frozen BK395.out 3; have hfz60_4 := blk_frozen BK395.out 4; have hfz60_5 := blk_frozen BK395.out 5; have hnb61 := NB370_369.out; have hnc61 := NB369_370.out; have hcz62_0 : w57.cell? ⟨gb370, 0, none⟩ = some (.int .i64 x371000_1) := (blk_cell BK370.out 0).trans rfl; have hcz62_1 : w57.cell? ⟨gb370, 1, none⟩ = some (.int .i64 x371001_1) := (blk_cell BK370.out 1).trans rfl; have hcz62_2 : w57.cell? ⟨gb370, 2, none⟩ = some (.int .i64 x371002_1) := (blk_cell BK370.out 2).trans rfl; have hcz62_3 : w57.cell? ⟨gb370, 3, none⟩ = some (.int .i64 x371003_1) := (blk_cell BK370.out 3).trans rfl; have hcz62_4 : w57.cell? ⟨gb370, 4, none⟩ = some (.int .i64 x371004_1) := (blk_cell BK370.out 4).trans rfl; have hcz62_5 : w57.cell? ⟨gb370, 5, none⟩ = some (.int .i64 x371005_1) := (blk_cell BK370.out 5).trans rfl; have hcz62_6 : w57.cell? ⟨gb370, 6, none⟩ = some (u371006) := (blk_cell BK370.out 6).trans rfl; have hfz62_0 := blk_frozen BK370.out 0; have hfz62_1 := blk_frozen BK370.out 1; have hfz62_2 := blk_frozen BK370.out 2; have hfz62_3 := blk_frozen BK370.out 3; have hfz62_4 := blk_frozen BK370.out 4; have hfz62_5 := blk_frozen BK370.out 5; have hfz62_6 := blk_frozen BK370.out 6))
                 go_roundg kj9
                 case measure => have := HK1.out; have := HJ4.out; have := HJ9.out; omega
                 case rel => exact ⟨(true), (wrap64 (x7_1 + 1)), (wrap64 (x9_1 + 1)), (wrap64 (x9_1 + 1)), (x370000_1), (x370001_1), (x370002_1), (x370003_1), (x370004_1), (x370005_1), (t388), (t389), (t390), (t391), (t392), (t393), (x371006_1), (u371006), (by first | rfl | (simp; done) | (simp [*]; done)), (by first | rfl | (simp; done) | (simp [*]; done)), (by first | rfl | (simp; done) | (simp [*]; done)), (by first | rfl | (simp; done) | (simp [*]; done)), H', ⟨by have := HK1.out; have := HJ4.out; have := HJ9.out; omega⟩, ⟨by (with_reducible repeat (first | apply Kd.R_alloc | apply Kd.R_drewN | apply Kd.R_drew)); exact Kd.R_mono (Kd.R_far (p := ⟨gb370, 5, none⟩) (Kd.R_far (p := ⟨gb370, 4, none⟩) (Kd.R_far (p := ⟨gb370, 3, none⟩) (Kd.R_far (p := ⟨gb370, 2, none⟩) (Kd.R_far (p := ⟨gb370, 1, none⟩) (Kd.R_far (p := ⟨gb370, 0, none⟩) (Kd.R_far (p := ⟨gb395, 5, none⟩) (Kd.R_far (p := ⟨gb395, 4, none⟩) (Kd.R_far (p := ⟨gb395, 3, none⟩) (Kd.R_far (p := ⟨gb395, 2, none⟩) (Kd.R_far (p := ⟨gb395, 1, none⟩) (Kd.R_far (p := ⟨gb395, 0, none⟩) (Kd.R_types (Kd.R_types HO_371006.out BK395.out (by decide)) BK370.out (by decide)) (fun _ hk => hk.1.2) (.int .i64 t388)) (fun _ hk => hk.1.2) (.int .i64 t389)) (fun _ hk => hk.1.2) (.int .i64 t390)) (fun _ hk => hk.1.2) (.int .i64 t391)) (fun _ hk => hk.1.2) (.int .i64 t392)) (fun _ hk => hk.1.2) (.int .i64 t393)) (fun _ hk => hk.2) (.int .i64 t388)) (fun _ hk => hk.2) (.int .i64 t389)) (fun _ hk => hk.2) (.int .i64 t390)) (fun _ hk => hk.2) (.int .i64 t391)) (fun _ hk => hk.2) (.int .i64 t392)) (fun _ hk => hk.2) (.int .i64 t393)) (fun _ hk => trivial)⟩, ⟨by (with_reducible repeat (first | refine blk_drewN ?_ _ | refine blk_drew ?_ | refine blk_alloc ?_ _)); refine blk_far ?_ NB369_370.out _; (with_reducible repeat (first | refine blk_drewN ?_ _ | refine blk_drew ?_ | refine blk_alloc ?_ _)); refine blk_far ?_ NB369_370.out _; (with_reducible repeat (first | refine blk_drewN ?_ _ | refine blk_drew ?_ | refine blk_alloc ?_ _)); refine blk_far ?_ NB369_370.out _; (with_reducible repeat (first | refine blk_drewN ?_ _ | refine blk_drew ?_ | refine blk_alloc ?_ _)); refine blk_far ?_ NB369_370.out _; (with_reducible repeat (first | refine blk_drewN ?_ _ | refine blk_drew ?_ | refine blk_alloc ?_ _)); refine blk_far ?_ NB369_370.out _; (with_reducible repeat (first | refine blk_drewN ?_ _ | refine blk_drew ?_ | refine blk_alloc ?_ _)); refine blk_far ?_ NB369_370.out _; (with_reducible repeat (first | refine blk_drewN ?_ _ | refine blk_drew ?_ | refine blk_alloc ?_ _)); refine blk_far ?_ NB369_395.out _; (with_reducible repeat (first | refine blk_drewN ?_ _ | refine blk_drew ?_ | refine blk_alloc ?_ _)); refine blk_far ?_ NB369_395.out _; (with_reducible repeat (first | refine blk_drewN ?_ _ | refine blk_drew ?_ | refine blk_alloc ?_ _)); refine blk_far ?_ NB369_395.out _; (with_reducible repeat (first | refine blk_drewN ?_ _ | refine blk_drew ?_ | refine blk_alloc ?_ _)); refine blk_far ?_ NB369_395.out _; (with_reducible repeat (first | refine blk_drewN ?_ _ | refine blk_drew ?_ | refine blk_alloc ?_ _)); refine blk_far ?_ NB369_395.out _; (with_reducible repeat (first | refine blk_drewN ?_ _ | refine blk_drew ?_ | refine blk_alloc ?_ _)); refine blk_far ?_ NB369_395.out _; (with_reducible repeat (first | refine blk_drewN ?_ _ | refine blk_drew ?_ | refine blk_alloc ?_ _)); exact BK369.out⟩, ⟨by (with_reducible repeat (first | refine blk_drewN ?_ _ | refine blk_drew ?_ | refine blk_alloc ?_ _)); refine blk_put (cs := #[.int .i64 t388, .int .i64 t389, .int .i64 t390, .int .i64 t391, .int .i64 t392, .int .i64 x371005_1, u371006]) ?_ 5 _ rfl; (with_reducible repeat (first | refine blk_drewN ?_ _ | refine blk_drew ?_ | refine blk_alloc ?_ _)); refine blk_put (cs := #[.int .i64 t388, .int .i64 t389, .int .i64 t390, .int .i64 t391, .int .i64 x371004_1, .int .i64 x371005_1, u371006]) ?_ 4 _ rfl; (with_reducible repeat (first | refine blk_drewN ?_ _ | refine blk_drew ?_ | refine blk_alloc ?_ _)); refine blk_put (cs := #[.int .i64 t388, .int .i64 t389, .int .i64 t390, .int .i64 x371003_1, .int .i64 x371004_1, .int .i64 x371005_1, u371006]) ?_ 3 _ rfl; (with_reducible repeat (first | refine blk_drewN ?_ _ | refine blk_drew ?_ | refine blk_alloc ?_ _)); refine blk_put (cs := #[.int .i64 t388, .int .i64 t389, .int .i64 x371002_1, .int .i64 x371003_1, .int .i64 x371004_1, .int .i64 x371005_1, u371006]) ?_ 2 _ rfl; (with_reducible repeat (first | refine blk_drewN ?_ _ | refine blk_drew ?_ | refine blk_alloc ?_ _)); refine blk_put (cs := #[.int .i64 t388, .int .i64 x371001_1, .int .i64 x371002_1, .int .i64 x371003_1, .int .i64 x371004_1, .int .i64 x371005_1, u371006]) ?_ 1 _ rfl; (with_reducible repeat (first | refine blk_drewN ?_ _ | refine blk_drew ?_ | refine blk_alloc ?_ _)); refine blk_put (cs := #[.int .i64 x371000_1, .int .i64 x371001_1, .int .i64 x371002_1, .int .i64 x371003_1, .int .i64 x371004_1, .int .i64 x371005_1, u371006]) ?_ 0 _ rfl; (with_reducible repeat (first | refine blk_drewN ?_ _ | refine blk_drew ?_ | refine blk_alloc ?_ _)); refine blk_far ?_ NB370_395.out _; (with_reducible repeat (first | refine blk_drewN ?_ _ | refine blk_drew ?_ | refine blk_alloc ?_ _)); refine blk_far ?_ NB370_395.out _; (with_reducible repeat (first | refine blk_drewN ?_ _ | refine blk_drew ?_ | refine blk_alloc ?_ _)); refine blk_far ?_ NB370_395.out _; (with_reducible repeat (first | refine blk_drewN ?_ _ | refine blk_drew ?_ | refine blk_alloc ?_ _)); refine blk_far ?_ NB370_395.out _; (with_reducible repeat (first | refine blk_drewN ?_ _ | refine blk_drew ?_ | refine blk_alloc ?_ _)); refine blk_far ?_ NB370_395.out _; (with_reducible repeat (first | refine blk_drewN ?_ _ | refine blk_drew ?_ | refine blk_alloc ?_ _)); refine blk_far ?_ NB370_395.out _; (with_reducible repeat (first | refine blk_drewN ?_ _ | refine blk_drew ?_ | refine blk_alloc ?_ _)); exact BK370.out⟩, ⟨by repeat (first | (with_reducible first | exact HB.out | apply below_alloc | apply pw_below_drewN | apply below_drew1 | refine below_set ?_ GE369.out | refine below_set ?_ GE370.out | refine below_set ?_ GE395.out) | exact HB.out)⟩⟩
                ·replace c53 := Bool.eq_false_iff.mpr c53
                 subst c53
                 have H1 : (some (0, 0, 0, 0, 0, 0, ([] : List (S29)), wrap64 (x7_1 + 1), 17)) = some (r1, r2, r3, r4, r5, r6, r7, r8, r9) := by rw [if_neg (show ¬ (false = true) by decide)] at H; exact H
                 clear H
                 have H := H1
                 clear H1
                 simp only [Option.some.injEq, Prod.mk.injEq] at H
                 obtain ⟨rfl, rfl, rfl, rfl, rfl, rfl, rfl, rfl, rfl⟩ := H
                 go_wp2_with (first | ((with_reducible refine gate_callee (f := 39) rfl ?_); refine goesL_ (some 51) rfl rfl Tryd.func39 (by kernel_rfl) rfl #[.string (a0.extract (x8_1 : Int).toNat (x9_1 : Int).toNat)] rfl (by (try simp only [List.map_toArray, List.map_cons, List.map_nil]); first | done | rfl | (simp only [List.length_drop, List.length_take]; rfl)) ?_; (with_reducible refine (barrowref24_silent.calls kj9 (a0.extract (x8_1 : Int).toNat (x9_1 : Int).toNat) false _ A23.out).mono ?_); rintro e w' ⟨rfl, ⟨nd, rfl⟩⟩; refine ⟨_, rfl, ?_⟩; (try (rw [drewN_self wc]; generalize hq_ : World.drewN wc _ = wc; have n0_ : Aside0 (Kd.R k29 29 wc w.heap.size (fun _ => True) u371006 x371006_1) := ⟨by rw [← hq_]; exact (by (with_reducible repeat (first | apply Kd.R_alloc | apply Kd.R_drewN | apply Kd.R_drew)); exact HO_371006.out)⟩; have n1_ : Aside0 (wc.heap[gb369]? = some (.cells #[.int .i64 x370000_1, .int .i64 x370001_1, .int .i64 x370002_1, .int .i64 x370003_1, .int .i64 x370004_1, .int .i64 x370005_1, .slice none 0 0] 26 (0, 0))) := ⟨by rw [← hq_]; exact (by (with_reducible repeat (first | refine blk_drewN ?_ _ | refine blk_drew ?_ | refine blk_alloc ?_ _)); exact BK369.out)⟩; have n2_ : Aside0 (wc.heap[gb370]? = some (.cells #[.int .i64 x371000_1, .int .i64 x371001_1, .int .i64 x371002_1, .int .i64 x371003_1, .int .i64 x371004_1, .int .i64 x371005_1, u371006] 26 (0, 0))) := ⟨by rw [← hq_]; exact (by (with_reducible repeat (first | refine blk_drewN ?_ _ | refine blk_drew ?_ | refine blk_alloc ?_ _)); exact BK370.out)⟩; have n3_ : Aside0 (Below w.heap.size w wc) := ⟨by rw [← hq_]; exact (by repeat (first | (with_reducible first | exact HB.out | apply below_alloc | apply pw_below_drewN | apply below_drew1 | refine below_set ?_ GE369.out | refine below_set ?_ GE370.out) | exact HB.out))⟩; clear HO_371006 BK369 BK370 HB hq_; have HO_371006 := n0_; have BK369 := n1_; have BK370 := n2_; have HB := n3_; clear n0_ n1_ n2_ n3_))) | ((with_reducible refine gate_callee (f := 38) rfl ?_); refine goesL_ (some 54) rfl rfl Tryd.func38 (by kernel_rfl) rfl #[.string (a0.extract (x8_1 : Int).toNat (x9_1 : Int).toNat)] rfl (by (try simp only [List.map_toArray, List.map_cons, List.map_nil]); first | done | rfl | (simp only [List.length_drop, List.length_take]; rfl)) ?_; (with_reducible refine (barrowref24_cut.calls kj9 (a0.extract (x8_1 : Int).toNat (x9_1 : Int).toNat) t372 true _ A25.out).mono ?_); rintro e w63 ⟨v374, rfl, ho0, hb⟩; refine ⟨_, rfl, ?_⟩; have n0_ := Aside0.mk (Kd.R_below (by (with_reducible repeat (first | apply Kd.R_alloc | apply Kd.R_drewN | apply Kd.R_drew)); exact HO_371006.out) hb); have n1_ := Aside0.mk (Kd.R_lower ho0 (below_size (by repeat (first | (with_reducible first | exact HB.out | apply below_alloc | apply pw_below_drewN | apply below_drew1 | refine below_set ?_ GE369.out | refine below_set ?_ GE370.out) | exact HB.out)))); have n2_ := Aside0.mk (blk_below (g := gb369) (o := .cells #[.int .i64 x370000_1, .int .i64 x370001_1, .int .i64 x370002_1, .int .i64 x370003_1, .int .i64 x370004_1, .int .i64 x370005_1, .slice none 0 0] 26 (0, 0)) (by (with_reducible repeat (first | refine blk_drewN ?_ _ | refine blk_drew ?_ | refine blk_alloc ?_ _)); exact BK369.out) hb); have n3_ := Aside0.mk (blk_below (g := gb370) (o := .cells #[.int .i64 x371000_1, .int .i64 x371001_1, .int .i64 x371002_1, .int .i64 x371003_1, .int .i64 x371004_1, .int .i64 x371005_1, u371006] 26 (0, 0)) (by (with_reducible repeat (first | refine blk_drewN ?_ _ | refine blk_drew ?_ | refine blk_alloc ?_ _)); exact BK370.out) hb); have n4_ := Aside0.mk (below_step (by repeat (first | (with_reducible first | exact HB.out | apply below_alloc | apply pw_below_drewN | apply below_drew1 | refine below_set ?_ GE369.out | refine below_set ?_ GE370.out) | exact HB.out)) hb); clear HO_371006; clear BK369; clear BK370; clear HB; have HO_371006 := n0_; have HO375 := n1_; have BK369 := n2_; have BK370 := n3_; have HB := n4_; clear n0_ n1_ n2_ n3_ n4_; (try clear hb); (try clear hb2); (try clear hk); (try clear hi); (try clear ho0); obtain ⟨Ao64, co64, eo64⟩ := Kd.R_slice HO375.out; subst eo64) | ((with_reducible refine gate_callee (f := 49) rfl ?_); refine goesL_ (some 65) rfl rfl Tryd.func49 (by kernel_rfl) rfl #[.slice Ao64 t372.length co64] rfl (by (try simp only [List.map_toArray, List.map_cons, List.map_nil]); first | done | rfl | (simp only [List.length_drop, List.length_take]; rfl)) ?_; (with_reducible refine (barrowref24_head.calls _ _ t372 t388 t389 t390 t391 t392 t393 false _ ?side1 ?side2 A52.out).mono ?_); (case side1 => repeat (first | exact (Kd.R_reads' HO375.out).2.2 | (with_reducible refine Kd.C_alloc ?_ _) | (with_reducible refine Kd.C_drewN ?_ _) | (with_reducible refine Kd.C_drew ?_))); (case side2 => exact (Kd.R_reads' HO375.out).2.1); rintro e w65 ⟨rfl, hb⟩; refine ⟨_, rfl, ?_⟩; have n0_ := Aside0.mk (Kd.R_below (by (with_reducible repeat (first | apply Kd.R_alloc | apply Kd.R_drewN | apply Kd.R_drew)); exact HO_371006.out) hb); have n1_ := Aside0.mk (Kd.R_below (by (with_reducible repeat (first | apply Kd.R_alloc | apply Kd.R_drewN | apply Kd.R_drew)); exact HO375.out) hb); have n2_ := Aside0.mk (blk_below (g := gb369) (o := .cells #[.int .i64 x370000_1, .int .i64 x370001_1, .int .i64 x370002_1, .int .i64 x370003_1, .int .i64 x370004_1, .int .i64 x370005_1, .slice none 0 0] 26 (0, 0)) (by (with_reducible repeat (first | refine blk_drewN ?_ _ | refine blk_drew ?_ | refine blk_alloc ?_ _)); exact BK369.out) hb); have n3_ := Aside0.mk (blk_below (g := gb370) (o := .cells #[.int .i64 x371000_1, .int .i64 x371001_1, .int .i64 x371002_1, .int .i64 x371003_1, .int .i64 x371004_1, .int .i64 x371005_1, u371006] 26 (0, 0)) (by (with_reducible repeat (first | refine blk_drewN ?_ _ | refine blk_drew ?_ | refine blk_alloc ?_ _)); exact BK370.out) hb); have n4_ := Aside0.mk (below_step (by repeat (first | (with_reducible first | exact HB.out | apply below_alloc | apply pw_below_drewN | apply below_drew1 | refine below_set ?_ GE369.out | refine below_set ?_ GE370.out) | exact HB.out)) hb); clear HO_371006; clear HO375; clear BK369; clear BK370; clear HB; have HO_371006 := n0_; have HO375 := n1_; have BK369 := n2_; have BK370 := n3_; have HB := n4_; clear n0_ n1_ n2_ n3_ n4_; (try clear hb); (try clear hb2); (try clear hk); (try clear hi)) | ((with_reducible refine gate_dst (N := 13) rfl ?_); (try (refine gate_guard (by rfl) ?_; dsimp only)); refine box_event ?hg (N := 13) ?hd (cs := #[.int .i64 0, .int .i64 0, .int .i64 0, .int .i64 0, .int .i64 0, .int .i64 0]) (t := 23) ?hr ?_; (case hd => rfl); (case hg => rfl); (case hr => first | (go_simp; done) | (go_simp; rfl)); intro gb395 hg w66 hbox hb; have n0_ := Aside0.mk (Kd.R_below (by (with_reducible repeat (first | apply Kd.R_alloc | apply Kd.R_drewN | apply Kd.R_drew)); exact HO_371006.out) hb); have n1_ := Aside0.mk (Kd.R_below (by (with_reducible repeat (first | apply Kd.R_alloc | apply Kd.R_drewN | apply Kd.R_drew)); exact HO375.out) hb); have n2_ := Aside0.mk (blk_below (g := gb369) (o := .cells #[.int .i64 x370000_1, .int .i64 x370001_1, .int .i64 x370002_1, .int .i64 x370003_1, .int .i64 x370004_1, .int .i64 x370005_1, .slice none 0 0] 26 (0, 0)) (by (with_reducible repeat (first | refine blk_drewN ?_ _ | refine blk_drew ?_ | refine blk_alloc ?_ _)); exact BK369.out) hb); have n3_ := Aside0.mk (blk_below (g := gb370) (o := .cells #[.int .i64 x371000_1, .int .i64 x371001_1, .int .i64 x371002_1, .int .i64 x371003_1, .int .i64 x371004_1, .int .i64 x371005_1, u371006] 26 (0, 0)) (by (with_reducible repeat (first | refine blk_drewN ?_ _ | refine blk_drew ?_ | refine blk_alloc ?_ _)); exact BK370.out) hb); have n4_ := Aside0.mk (below_step (by repeat (first | (with_reducible first | exact HB.out | apply below_alloc | apply pw_below_drewN | apply below_drew1 | refine below_set ?_ GE369.out | refine below_set ?_ GE370.out) | exact HB.out)) hb); have n5_ := Aside0.mk (hbox); have n6_ := Aside0.mk ((by rw [hg]; exact (below_size (by repeat (first | (with_reducible first | exact HB.out | apply below_alloc | apply pw_below_drewN | apply below_drew1 | refine below_set ?_ GE369.out | refine below_set ?_ GE370.out) | exact HB.out))) : w.heap.size ≤ gb395)); have n7_ := Aside0.mk ((by rw [hg]; exact (below_size (by repeat (first | (with_reducible first | exact HB.out | apply below_alloc | apply pw_below_drewN | apply below_drew1 | refine below_set ?_ GE369.out | refine below_set ?_ GE370.out) | exact HB.out))) : w.heap.size ≤ gb395)); have n8_ := Aside0.mk ((by rw [hg]; exact Nat.ne_of_lt (blk_lt (g := gb369) (o := .cells #[.int .i64 x370000_1, .int .i64 x370001_1, .int .i64 x370002_1, .int .i64 x370003_1, .int .i64 x370004_1, .int .i64 x370005_1, .slice none 0 0] 26 (0, 0)) (by (with_reducible repeat (first | refine blk_drewN ?_ _ | refine blk_drew ?_ | refine blk_alloc ?_ _)); exact BK369.out)) : gb369 ≠ gb395)); have n9_ := Aside0.mk ((by rw [hg]; exact Nat.ne_of_gt (blk_lt (g := gb369) (o := .cells #[.int .i64 x370000_1, .int .i64 x370001_1, .int .i64 x370002_1, .int .i64 x370003_1, .int .i64 x370004_1, .int .i64 x370005_1, .slice none 0 0] 26 (0, 0)) (by (with_reducible repeat (first | refine blk_drewN ?_ _ | refine blk_drew ?_ | refine blk_alloc ?_ _)); exact BK369.out)) : gb395 ≠ gb369)); have n10_ := Aside0.mk ((by rw [hg]; exact Nat.ne_of_lt (blk_lt (g := gb370) (o := .cells #[.int .i64 x371000_1, .int .i64 x371001_1, .int .i64 x371002_1, .int .i64 x371003_1, .int .i64 x371004_1, .int .i64 x371005_1, u371006] 26 (0, 0)) (by (with_reducible repeat (first | refine blk_drewN ?_ _ | refine blk_drew ?_ | refine blk_alloc ?_ _)); exact BK370.out)) : gb370 ≠ gb395)); have n11_ := Aside0.mk ((by rw [hg]; exact Nat.ne_of_gt (blk_lt (g := gb370) (o := .cells #[.int .i64 x371000_1, .int .i64 x371001_1, .int .i64 x371002_1, .int .i64 x371003_1, .int .i64 x371004_1, .int .i64 x371005_1, u371006] 26 (0, 0)) (by (with_reducible repeat (first | refine blk_drewN ?_ _ | refine blk_drew ?_ | refine blk_alloc ?_ _)); exact BK370.out)) : gb395 ≠ gb370)); clear HO_371006; clear HO375; clear BK369; clear BK370; clear HB; have HO_371006 := n0_; have HO375 := n1_; have BK369 := n2_; have BK370 := n3_; have HB := n4_; have BK395 := n5_; have GW395 := n6_; have GE395 := n7_; have NB369_395 := n8_; have NB395_369 := n9_; have NB370_395 := n10_; have NB395_370 := n11_; clear n0_ n1_ n2_ n3_ n4_ n5_ n6_ n7_ n8_ n9_ n10_ n11_; clear hb hbox hg; have hnb67 := NB395_369.out; have hnc67 := NB369_395.out; have hnb68 := NB395_370.out; have hnc68 := NB370_395.out; have hcz69_0 : w66.cell? ⟨gb395, 0, none⟩ = some (.int .i64 0) := (blk_cell BK395.out 0).trans rfl; have hcz69_1 : w66.cell? ⟨gb395, 1, none⟩ = some (.int .i64 0) := (blk_cell BK395.out 1).trans rfl; have hcz69_2 : w66.cell? ⟨gb395, 2, none⟩ = some (.int .i64 0) := (blk_cell BK395.out 2).trans rfl; have hcz69_3 : w66.cell? ⟨gb395, 3, none⟩ = some (.int .i64 0) := (blk_cell BK395.out 3).trans rfl; have hcz69_4 : w66.cell? ⟨gb395, 4, none⟩ = some (.int .i64 0) := (blk_cell BK395.out 4).trans rfl; have hcz69_5 : w66.cell? ⟨gb395, 5, none⟩ = some (.int .i64 0) := (blk_cell BK395.out 5).trans rfl; have hfz69_0 := blk_frozen BK395.out 0; have hfz69_1 := blk_frozen BK395.out 1; have hfz69_2 := blk_frozen BK395.out 2; have hfz69_3 := blk_frozen BK395.out 3; have hfz69_4 := blk_frozen BK395.out 4; have hfz69_5 := blk_frozen BK395.out 5; have hnb70 := NB369_370.out; have hnc70 := NB370_369.out; have hcz71_0 : w66.cell? ⟨gb369, 0, none⟩ = some (.int .i64 x370000_1) := (blk_cell BK369.out 0).trans rfl; have hcz71_1 : w66.cell? ⟨gb369, 1, none⟩ = some (.int .i64 x370001_1) := (blk_cell BK369.out 1).trans rfl; have hcz71_2 : w66.cell? ⟨gb369, 2, none⟩ = some (.int .i64 x370002_1) := (blk_cell BK369.out 2).trans rfl; have hcz71_3 : w66.cell? ⟨gb369, 3, none⟩ = some (.int .i64 x370003_1) := (blk_cell BK369.out 3).trans rfl; have hcz71_4 : w66.cell? ⟨gb369, 4, none⟩ = some (.int .i64 x370004_1) := (blk_cell BK369.out 4).trans rfl; have hcz71_5 : w66.cell? ⟨gb369, 5, none⟩ = some (.int .i64 x370005_1) := (blk_cell BK369.out 5).trans rfl; have hcz71_6 : w66.cell? ⟨gb369, 6, none⟩ = some (.slice none 0 0) := (blk_cell BK369.out 6).trans rfl; have hfz71_0 := blk_frozen BK369.out 0; have hfz71_1 := blk_frozen BK369.out 1; have hfz71_2 := blk_frozen BK369.out 2; have hfz71_3 := blk_frozen BK369.out 3; have hfz71_4 := blk_frozen BK369.out 4; have hfz71_5 := blk_frozen BK369.out 5; have hfz71_6 := blk_frozen BK369.out 6))
                 refine bodyPost_ret (results_ctt rfl _ _ gb369 26 #[.int .i64 0, .int .i64 0, .int .i64 0, .int .i64 0, .int .i64 0, .int .i64 0, .slice none 0 0] (0, 0) _ rfl (by (with_reducible repeat (first | refine blk_drewN ?_ _ | refine blk_drew ?_ | refine blk_alloc ?_ _)); refine blk_put (cs := #[.int .i64 0, .int .i64 0, .int .i64 0, .int .i64 0, .int .i64 0, .int .i64 0, .slice none 0 0]) ?_ 6 _ rfl; (with_reducible repeat (first | refine blk_drewN ?_ _ | refine blk_drew ?_ | refine blk_alloc ?_ _)); refine blk_put (cs := #[.int .i64 0, .int .i64 0, .int .i64 0, .int .i64 0, .int .i64 0, .int .i64 x370005_1, .slice none 0 0]) ?_ 5 _ rfl; (with_reducible repeat (first | refine blk_drewN ?_ _ | refine blk_drew ?_ | refine blk_alloc ?_ _)); refine blk_put (cs := #[.int .i64 0, .int .i64 0, .int .i64 0, .int .i64 0, .int .i64 x370004_1, .int .i64 x370005_1, .slice none 0 0]) ?_ 4 _ rfl; (with_reducible repeat (first | refine blk_drewN ?_ _ | refine blk_drew ?_ | refine blk_alloc ?_ _)); refine blk_put (cs := #[.int .i64 0, .int .i64 0, .int .i64 0, .int .i64 x370003_1, .int .i64 x370004_1, .int .i64 x370005_1, .slice none 0 0]) ?_ 3 _ rfl; (with_reducible repeat (first | refine blk_drewN ?_ _ | refine blk_drew ?_ | refine blk_alloc ?_ _)); refine blk_put (cs := #[.int .i64 0, .int .i64 0, .int .i64 x370002_1, .int .i64 x370003_1, .int .i64 x370004_1, .int .i64 x370005_1, .slice none 0 0]) ?_ 2 _ rfl; (with_reducible repeat (first | refine blk_drewN ?_ _ | refine blk_drew ?_ | refine blk_alloc ?_ _)); refine blk_put (cs := #[.int .i64 0, .int .i64 x370001_1, .int .i64 x370002_1, .int .i64 x370003_1, .int .i64 x370004_1, .int .i64 x370005_1, .slice none 0 0]) ?_ 1 _ rfl; (with_reducible repeat (first | refine blk_drewN ?_ _ | refine blk_drew ?_ | refine blk_alloc ?_ _)); refine blk_put (cs := #[.int .i64 x370000_1, .int .i64 x370001_1, .int .i64 x370002_1, .int .i64 x370003_1, .int .i64 x370004_1, .int .i64 x370005_1, .slice none 0 0]) ?_ 0 _ rfl; (with_reducible repeat (first | refine blk_drewN ?_ _ | refine blk_drew ?_ | refine blk_alloc ?_ _)); refine blk_far ?_ NB369_395.out _; (with_reducible repeat (first | refine blk_drewN ?_ _ | refine blk_drew ?_ | refine blk_alloc ?_ _)); refine blk_far ?_ NB369_395.out _; (with_reducible repeat (first | refine blk_drewN ?_ _ | refine blk_drew ?_ | refine blk_alloc ?_ _)); refine blk_far ?_ NB369_395.out _; (with_reducible repeat (first | refine blk_drewN ?_ _ | refine blk_drew ?_ | refine blk_alloc ?_ _)); refine blk_far ?_ NB369_395.out _; (with_reducible repeat (first | refine blk_drewN ?_ _ | refine blk_drew ?_ | refine blk_alloc ?_ _)); refine blk_far ?_ NB369_395.out _; (with_reducible repeat (first | refine blk_drewN ?_ _ | refine blk_drew ?_ | refine blk_alloc ?_ _)); refine blk_far ?_ NB369_395.out _; (with_reducible repeat (first | refine blk_drewN ?_ _ | refine blk_drew ?_ | refine blk_alloc ?_ _)); exact BK369.out) Tryd.underlying26 rfl (by kernel_rfl)) rfl ?_
                 exact ⟨_, by first | rfl | (simp [errW_none, errW_some] <;> rfl) | (simp [*, errW_none, errW_some] <;> rfl), by first | exact Kd.R_nil _ _ _ _ _ | exact Kd.N_nil _ _ _ _ _ | exact Kd.V_nil _ _ _ _ _ | exact Kd.Q_nil _ _ _ _ _ | exact Kd.S_nil _ _ _ _ _, by repeat (first | (with_reducible first | exact HB.out | apply below_alloc | apply pw_below_drewN | apply below_drew1 | refine below_set ?_ GE369.out | refine below_set ?_ GE370.out | refine below_set ?_ GE395.out) | exact HB.out)⟩
              ·replace c26 := Bool.eq_false_iff.mpr c26
               subst c26
               have H1 : (some (0, 0, 0, 0, 0, 0, ([] : List (S29)), wrap64 (x7_1 + 1), 17)) = some (r1, r2, r3, r4, r5, r6, r7, r8, r9) := by rw [if_neg (show ¬ (false = true) by decide)] at H; exact H
               clear H
               have H := H1
               clear H1
               simp only [Option.some.injEq, Prod.mk.injEq] at H
               obtain ⟨rfl, rfl, rfl, rfl, rfl, rfl, rfl, rfl, rfl⟩ := H
               go_wp2_with (first | ((with_reducible refine gate_callee (f := 39) rfl ?_); refine goesL_ (some 51) rfl rfl Tryd.func39 (by kernel_rfl) rfl #[.string (a0.extract (x8_1 : Int).toNat (x9_1 : Int).toNat)] rfl (by (try simp only [List.map_toArray, List.map_cons, List.map_nil]); first | done | rfl | (simp only [List.length_drop, List.length_take]; rfl)) ?_; (with_reducible refine (barrowref24_silent.calls kj9 (a0.extract (x8_1 : Int).toNat (x9_1 : Int).toNat) false _ A23.out).mono ?_); rintro e w' ⟨rfl, ⟨nd, rfl⟩⟩; refine ⟨_, rfl, ?_⟩; (try (rw [drewN_self wc]; generalize hq_ : World.drewN wc _ = wc; have n0_ : Aside0 (Kd.R k29 29 wc w.heap.size (fun _ => True) u371006 x371006_1) := ⟨by rw [← hq_]; exact (by (with_reducible repeat (first | apply Kd.R_alloc | apply Kd.R_drewN | apply Kd.R_drew)); exact HO_371006.out)⟩; have n1_ : Aside0 (wc.heap[gb369]? = some (.cells #[.int .i64 x370000_1, .int .i64 x370001_1, .int .i64 x370002_1, .int .i64 x370003_1, .int .i64 x370004_1, .int .i64 x370005_1, .slice none 0 0] 26 (0, 0))) := ⟨by rw [← hq_]; exact (by (with_reducible repeat (first | refine blk_drewN ?_ _ | refine blk_drew ?_ | refine blk_alloc ?_ _)); exact BK369.out)⟩; have n2_ : Aside0 (wc.heap[gb370]? = some (.cells #[.int .i64 x371000_1, .int .i64 x371001_1, .int .i64 x371002_1, .int .i64 x371003_1, .int .i64 x371004_1, .int .i64 x371005_1, u371006] 26 (0, 0))) := ⟨by rw [← hq_]; exact (by (with_reducible repeat (first | refine blk_drewN ?_ _ | refine blk_drew ?_ | refine blk_alloc ?_ _)); exact BK370.out)⟩; have n3_ : Aside0 (Below w.heap.size w wc) := ⟨by rw [← hq_]; exact (by repeat (first | (with_reducible first | exact HB.out | apply below_alloc | apply pw_below_drewN | apply below_drew1 | refine below_set ?_ GE369.out | refine below_set ?_ GE370.out) | exact HB.out))⟩; clear HO_371006 BK369 BK370 HB hq_; have HO_371006 := n0_; have BK369 := n1_; have BK370 := n2_; have HB := n3_; clear n0_ n1_ n2_ n3_))) | ((with_reducible refine gate_callee (f := 38) rfl ?_); refine goesL_ (some 54) rfl rfl Tryd.func38 (by kernel_rfl) rfl #[.string (a0.extract (x8_1 : Int).toNat (x9_1 : Int).toNat)] rfl (by (try simp only [List.map_toArray, List.map_cons, List.map_nil]); first | done | rfl | (simp only [List.length_drop, List.length_take]; rfl)) ?_; (with_reducible refine (barrowref24_cut.calls kj9 (a0.extract (x8_1 : Int).toNat (x9_1 : Int).toNat) t372 false _ A25.out).mono ?_); rintro e w72 ⟨v374, rfl, ho0, hb⟩; refine ⟨_, rfl, ?_⟩; have n0_ := Aside0.mk (Kd.R_below (by (with_reducible repeat (first | apply Kd.R_alloc | apply Kd.R_drewN | apply Kd.R_drew)); exact HO_371006.out) hb); have n1_ := Aside0.mk (Kd.R_lower ho0 (below_size (by repeat (first | (with_reducible first | exact HB.out | apply below_alloc | apply pw_below_drewN | apply below_drew1 | refine below_set ?_ GE369.out | refine below_set ?_ GE370.out) | exact HB.out)))); have n2_ := Aside0.mk (blk_below (g := gb369) (o := .cells #[.int .i64 x370000_1, .int .i64 x370001_1, .int .i64 x370002_1, .int .i64 x370003_1, .int .i64 x370004_1, .int .i64 x370005_1, .slice none 0 0] 26 (0, 0)) (by (with_reducible repeat (first | refine blk_drewN ?_ _ | refine blk_drew ?_ | refine blk_alloc ?_ _)); exact BK369.out) hb); have n3_ := Aside0.mk (blk_below (g := gb370) (o := .cells #[.int .i64 x371000_1, .int .i64 x371001_1, .int .i64 x371002_1, .int .i64 x371003_1, .int .i64 x371004_1, .int .i64 x371005_1, u371006] 26 (0, 0)) (by (with_reducible repeat (first | refine blk_drewN ?_ _ | refine blk_drew ?_ | refine blk_alloc ?_ _)); exact BK370.out) hb); have n4_ := Aside0.mk (below_step (by repeat (first | (with_reducible first | exact HB.out | apply below_alloc | apply pw_below_drewN | apply below_drew1 | refine below_set ?_ GE369.out | refine below_set ?_ GE370.out) | exact HB.out)) hb); clear HO_371006; clear BK369; clear BK370; clear HB; have HO_371006 := n0_; have HO375 := n1_; have BK369 := n2_; have BK370 := n3_; have HB := n4_; clear n0_ n1_ n2_ n3_ n4_; (try clear hb); (try clear hb2); (try clear hk); (try clear hi); (try clear ho0); have hnb73 := NB369_370.out; have hnc73 := NB370_369.out; have hcz74_0 : w72.cell? ⟨gb369, 0, none⟩ = some (.int .i64 x370000_1) := (blk_cell BK369.out 0).trans rfl; have hcz74_1 : w72.cell? ⟨gb369, 1, none⟩ = some (.int .i64 x370001_1) := (blk_cell BK369.out 1).trans rfl; have hcz74_2 : w72.cell? ⟨gb369, 2, none⟩ = some (.int .i64 x370002_1) := (blk_cell BK369.out 2).trans rfl; have hcz74_3 : w72.cell? ⟨gb369, 3, none⟩ = some (.int .i64 x370003_1) := (blk_cell BK369.out 3).trans rfl; have hcz74_4 : w72.cell? ⟨gb369, 4, none⟩ = some (.int .i64 x370004_1) := (blk_cell BK369.out 4).trans rfl; have hcz74_5 : w72.cell? ⟨gb369, 5, none⟩ = some (.int .i64 x370005_1) := (blk_cell BK369.out 5).trans rfl; have hcz74_6 : w72.cell? ⟨gb369, 6, none⟩ = some (.slice none 0 0) := (blk_cell BK369.out 6).trans rfl; have hfz74_0 := blk_frozen BK369.out 0; have hfz74_1 := blk_frozen BK369.out 1; have hfz74_2 := blk_frozen BK369.out 2; have hfz74_3 := blk_frozen BK369.out 3; have hfz74_4 := blk_frozen BK369.out 4; have hfz74_5 := blk_frozen BK369.out 5; have hfz74_6 := blk_frozen BK369.out 6))
               refine bodyPost_ret (results_ctt rfl _ _ gb369 26 #[.int .i64 0, .int .i64 0, .int .i64 0, .int .i64 0, .int .i64 0, .int .i64 0, .slice none 0 0] (0, 0) _ rfl (by (with_reducible repeat (first | refine blk_drewN ?_ _ | refine blk_drew ?_ | refine blk_alloc ?_ _)); refine blk_put (cs := #[.int .i64 0, .int .i64 0, .int .i64 0, .int .i64 0, .int .i64 0, .int .i64 0, .slice none 0 0]) ?_ 6 _ rfl; (with_reducible repeat (first | refine blk_drewN ?_ _ | refine blk_drew ?_ | refine blk_alloc ?_ _)); refine blk_put (cs := #[.int .i64 0, .int .i64 0, .int .i64 0, .int .i64 0, .int .i64 0, .int .i64 x370005_1, .slice none 0 0]) ?_ 5 _ rfl; (with_reducible repeat (first | refine blk_drewN ?_ _ | refine blk_drew ?_ | refine blk_alloc ?_ _)); refine blk_put (cs := #[.int .i64 0, .int .i64 0, .int .i64 0, .int .i64 0, .int .i64 x370004_1, .int .i64 x370005_1, .slice none 0 0]) ?_ 4 _ rfl; (with_reducible repeat (first | refine blk_drewN ?_ _ | refine blk_drew ?_ | refine blk_alloc ?_ _)); refine blk_put (cs := #[.int .i64 0, .int .i64 0, .int .i64 0, .int .i64 x370003_1, .int .i64 x370004_1, .int .i64 x370005_1, .slice none 0 0]) ?_ 3 _ rfl; (with_reducible repeat (first | refine blk_drewN ?_ _ | refine blk_drew ?_ | refine blk_alloc ?_ _)); refine blk_put (cs := #[.int .i64 0, .int .i64 0, .int .i64 x370002_1, .int .i64 x370003_1, .int .i64 x370004_1, .int .i64 x370005_1, .slice none 0 0]) ?_ 2 _ rfl; (with_reducible repeat (first | refine blk_drewN ?_ _ | refine blk_drew ?_ | refine blk_alloc ?_ _)); refine blk_put (cs := #[.int .i64 0, .int .i64 x370001_1, .int .i64 x370002_1, .int .i64 x370003_1, .int .i64 x370004_1, .int .i64 x370005_1, .slice none 0 0]) ?_ 1 _ rfl; (with_reducible repeat (first | refine blk_drewN ?_ _ | refine blk_drew ?_ | refine blk_alloc ?_ _)); refine blk_put (cs := #[.int .i64 x370000_1, .int .i64 x370001_1, .int .i64 x370002_1, .int .i64 x370003_1, .int .i64 x370004_1, .int .i64 x370005_1, .slice none 0 0]) ?_ 0 _ rfl; (with_reducible repeat (first | refine blk_drewN ?_ _ | refine blk_drew ?_ | refine blk_alloc ?_ _)); exact BK369.out) Tryd.underlying26 rfl (by kernel_rfl)) rfl ?_
               exact ⟨_, by first | rfl | (simp [errW_none, errW_some] <;> rfl) | (simp [*, errW_none, errW_some] <;> rfl), by first | exact Kd.R_nil _ _ _ _ _ | exact Kd.N_nil _ _ _ _ _ | exact Kd.V_nil _ _ _ _ _ | exact Kd.Q_nil _ _ _ _ _ | exact Kd.S_nil _ _ _ _ _, by repeat (first | (with_reducible first | exact HB.out | apply below_alloc | apply pw_below_drewN | apply below_drew1 | refine below_set ?_ GE369.out | refine below_set ?_ GE370.out) | exact HB.out)⟩
            ·rw [if_neg c22] at H
             exact absurd H (by simp)
           ·rw [if_neg c21] at H
            exact absurd H (by simp)
          ·rw [if_neg c20] at H
           exact absurd H (by simp)
   ·rw [if_neg c4] at H
    have c4b0 : decide (x9_1 ≤ (a0.size : Int)) = false := decide_eq_false c4
    clear c4
    by_cases c75 : x6_1 = true
    ·subst c75
     have H1 : (some (x371000_1, x371001_1, x371002_1, x371003_1, x371004_1, x371005_1, x371006_1, 0, 0)) = some (r1, r2, r3, r4, r5, r6, r7, r8, r9) := by rw [if_pos rfl] at H; exact H
     clear H
     have H := H1
     clear H1
     simp only [Option.some.injEq, Prod.mk.injEq] at H
     obtain ⟨rfl, rfl, rfl, rfl, rfl, rfl, rfl, rfl, rfl⟩ := H
     have hnb76 := NB370_369.out
     have hnc76 := NB369_370.out
     have hcz77_0 : wr.cell? ⟨gb370, 0, none⟩ = some (.int .i64 x371000_1) := (blk_cell BK370.out 0).trans rfl
     have hcz77_1 : wr.cell? ⟨gb370, 1, none⟩ = some (.int .i64 x371001_1) := (blk_cell BK370.out 1).trans rfl
     have hcz77_2 : wr.cell? ⟨gb370, 2, none⟩ = some (.int .i64 x371002_1) := (blk_cell BK370.out 2).trans rfl
     have hcz77_3 : wr.cell? ⟨gb370, 3, none⟩ = some (.int .i64 x371003_1) := (blk_cell BK370.out 3).trans rfl
     have hcz77_4 : wr.cell? ⟨gb370, 4, none⟩ = some (.int .i64 x371004_1) := (blk_cell BK370.out 4).trans rfl
     have hcz77_5 : wr.cell? ⟨gb370, 5, none⟩ = some (.int .i64 x371005_1) := (blk_cell BK370.out 5).trans rfl
     have hcz77_6 : wr.cell? ⟨gb370, 6, none⟩ = some (u371006) := (blk_cell BK370.out 6).trans rfl
     have hfz77_0 := blk_frozen BK370.out 0
     have hfz77_1 := blk_frozen BK370.out 1
     have hfz77_2 := blk_frozen BK370.out 2
     have hfz77_3 := blk_frozen BK370.out 3
     have hfz77_4 := blk_frozen BK370.out 4
     have hfz77_5 := blk_frozen BK370.out 5
     have hfz77_6 := blk_frozen BK370.out 6
     have hcz78_0 : wr.cell? ⟨gb369, 0, none⟩ = some (.int .i64 x370000_1) := (blk_cell BK369.out 0).trans rfl
     have hcz78_1 : wr.cell? ⟨gb369, 1, none⟩ = some (.int .i64 x370001_1) := (blk_cell BK369.out 1).trans rfl
     have hcz78_2 : wr.cell? ⟨gb369, 2, none⟩ = some (.int .i64 x370002_1) := (blk_cell BK369.out 2).trans rfl
     have hcz78_3 : wr.cell? ⟨gb369, 3, none⟩ = some (.int .i64 x370003_1) := (blk_cell BK369.out 3).trans rfl
     have hcz78_4 : wr.cell? ⟨gb369, 4, none⟩ = some (.int .i64 x370004_1) := (blk_cell BK369.out 4).trans rfl
     have hcz78_5 : wr.cell? ⟨gb369, 5, none⟩ = some (.int .i64 x370005_1) := (blk_cell BK369.out 5).trans rfl
     have hcz78_6 : wr.cell? ⟨gb369, 6, none⟩ = some (.slice none 0 0) := (blk_cell BK369.out 6).trans rfl
     have hfz78_0 := blk_frozen BK369.out 0
     have hfz78_1 := blk_frozen BK369.out 1
     have hfz78_2 := blk_frozen BK369.out 2
     have hfz78_3 := blk_frozen BK369.out 3
     have hfz78_4 := blk_frozen BK369.out 4
     have hfz78_5 := blk_frozen BK369.out 5
     have hfz78_6 := blk_frozen BK369.out 6
     obtain ⟨Ao79, co79, eo79⟩ := Kd.R_slice HO_371006.out
     subst eo79
     go_wp2
     refine bodyPost_ret (results_ctt rfl _ _ gb369 26 #[.int .i64 x371000_1, .int .i64 x371001_1, .int .i64 x371002_1, .int .i64 x371003_1, .int .i64 x371004_1, .int .i64 x371005_1, .slice Ao79 x371006_1.length co79] (0, 0) _ rfl (by (with_reducible repeat (first | refine blk_drewN ?_ _ | refine blk_drew ?_ | refine blk_alloc ?_ _)); refine blk_put (cs := #[.int .i64 x371000_1, .int .i64 x371001_1, .int .i64 x371002_1, .int .i64 x371003_1, .int .i64 x371004_1, .int .i64 x371005_1, .slice none 0 0]) ?_ 6 _ rfl; (with_reducible repeat (first | refine blk_drewN ?_ _ | refine blk_drew ?_ | refine blk_alloc ?_ _)); refine blk_put (cs := #[.int .i64 x371000_1, .int .i64 x371001_1, .int .i64 x371002_1, .int .i64 x371003_1, .int .i64 x371004_1, .int .i64 x370005_1, .slice none 0 0]) ?_ 5 _ rfl; (with_reducible repeat (first | refine blk_drewN ?_ _ | refine blk_drew ?_ | refine blk_alloc ?_ _)); refine blk_put (cs := #[.int .i64 x371000_1, .int .i64 x371001_1, .int .i64 x371002_1, .int .i64 x371003_1, .int .i64 x370004_1, .int .i64 x370005_1, .slice none 0 0]) ?_ 4 _ rfl; (with_reducible repeat (first | refine blk_drewN ?_ _ | refine blk_drew ?_ | refine blk_alloc ?_ _)); refine blk_put (cs := #[.int .i64 x371000_1, .int .i64 x371001_1, .int .i64 x371002_1, .int .i64 x370003_1, .int .i64 x370004_1, .int .i64 x370005_1, .slice none 0 0]) ?_ 3 _ rfl; (with_reducible repeat (first | refine blk_drewN ?_ _ | refine blk_drew ?_ | refine blk_alloc ?_ _)); refine blk_put (cs := #[.int .i64 x371000_1, .int .i64 x371001_1, .int .i64 x370002_1, .int .i64 x370003_1, .int .i64 x370004_1, .int .i64 x370005_1, .slice none 0 0]) ?_ 2 _ rfl; (with_reducible repeat (first | refine blk_drewN ?_ _ | refine blk_drew ?_ | refine blk_alloc ?_ _)); refine blk_put (cs := #[.int .i64 x371000_1, .int .i64 x370001_1, .int .i64 x370002_1, .int .i64 x370003_1, .int .i64 x370004_1, .int .i64 x370005_1, .slice none 0 0]) ?_ 1 _ rfl; (with_reducible repeat (first | refine blk_drewN ?_ _ | refine blk_drew ?_ | refine blk_alloc ?_ _)); refine blk_put (cs := #[.int .i64 x370000_1, .int .i64 x370001_1, .int .i64 x370002_1, .int .i64 x370003_1, .int .i64 x370004_1, .int .i64 x370005_1, .slice none 0 0]) ?_ 0 _ rfl; (with_reducible repeat (first | refine blk_drewN ?_ _ | refine blk_drew ?_ | refine blk_alloc ?_ _)); exact BK369.out) Tryd.underlying26 rfl (by kernel_rfl)) rfl ?_
     exact ⟨_, by first | rfl | (simp [errW_none, errW_some] <;> rfl) | (simp [*, errW_none, errW_some] <;> rfl), by (with_reducible repeat (first | apply Kd.R_alloc | apply Kd.R_drewN | apply Kd.R_drew)); exact Kd.R_mono (Kd.R_far (p := ⟨gb369, 6, none⟩) (Kd.R_far (p := ⟨gb369, 5, none⟩) (Kd.R_far (p := ⟨gb369, 4, none⟩) (Kd.R_far (p := ⟨gb369, 3, none⟩) (Kd.R_far (p := ⟨gb369, 2, none⟩) (Kd.R_far (p := ⟨gb369, 1, none⟩) (Kd.R_far (p := ⟨gb369, 0, none⟩) (Kd.R_types HO_371006.out BK369.out (by decide)) (fun _ hk => hk.2) (.int .i64 x371000_1)) (fun _ hk => hk.2) (.int .i64 x371001_1)) (fun _ hk => hk.2) (.int .i64 x371002_1)) (fun _ hk => hk.2) (.int .i64 x371003_1)) (fun _ hk => hk.2) (.int .i64 x371004_1)) (fun _ hk => hk.2) (.int .i64 x371005_1)) (fun _ hk => hk.2) (.slice Ao79 x371006_1.length co79)) (fun _ hk => trivial), by repeat (first | (with_reducible first | exact HB.out | apply below_alloc | apply pw_below_drewN | apply below_drew1 | refine below_set ?_ GE369.out | refine below_set ?_ GE370.out) | exact HB.out)⟩
    ·replace c75 := Bool.eq_false_iff.mpr c75
     subst c75
     have H1 : (some (0, 0, 0, 0, 0, 0, ([] : List (S29)), wrap64 (x7_1 + 1), 17)) = some (r1, r2, r3, r4, r5, r6, r7, r8, r9) := by rw [if_neg (show ¬ (false = true) by decide)] at H; exact H
     clear H
     have H := H1
     clear H1
     simp only [Option.some.injEq, Prod.mk.injEq] at H
     obtain ⟨rfl, rfl, rfl, rfl, rfl, rfl, rfl, rfl, rfl⟩ := H
     have hnb80 := NB369_370.out
     have hnc80 := NB370_369.out
     have hcz81_0 : wr.cell? ⟨gb369, 0, none⟩ = some (.int .i64 x370000_1) := (blk_cell BK369.out 0).trans rfl
     have hcz81_1 : wr.cell? ⟨gb369, 1, none⟩ = some (.int .i64 x370001_1) := (blk_cell BK369.out 1).trans rfl
     have hcz81_2 : wr.cell? ⟨gb369, 2, none⟩ = some (.int .i64 x370002_1) := (blk_cell BK369.out 2).trans rfl
     have hcz81_3 : wr.cell? ⟨gb369, 3, none⟩ = some (.int .i64 x370003_1) := (blk_cell BK369.out 3).trans rfl
     have hcz81_4 : wr.cell? ⟨gb369, 4, none⟩ = some (.int .i64 x370004_1) := (blk_cell BK369.out 4).trans rfl
     have hcz81_5 : wr.cell? ⟨gb369, 5, none⟩ = some (.int .i64 x370005_1) := (blk_cell BK369.out 5).trans rfl
     have hcz81_6 : wr.cell? ⟨gb369, 6, none⟩ = some (.slice none 0 0) := (blk_cell BK369.out 6).trans rfl
     have hfz81_0 := blk_frozen BK369.out 0
     have hfz81_1 := blk_frozen BK369.out 1
     have hfz81_2 := blk_frozen BK369.out 2
     have hfz81_3 := blk_frozen BK369.out 3
     have hfz81_4 := blk_frozen BK369.out 4
     have hfz81_5 := blk_frozen BK369.out 5
     have hfz81_6 := blk_frozen BK369.out 6
     go_wp2
     refine bodyPost_ret (results_ctt rfl _ _ gb369 26 #[.int .i64 0, .int .i64 0, .int .i64 0, .int .i64 0, .int .i64 0, .int .i64 0, .slice none 0 0] (0, 0) _ rfl (by (with_reducible repeat (first | refine blk_drewN ?_ _ | refine blk_drew ?_ | refine blk_alloc ?_ _)); refine blk_put (cs := #[.int .i64 0, .int .i64 0, .int .i64 0, .int .i64 0, .int .i64 0, .int .i64 0, .slice none 0 0]) ?_ 6 _ rfl; (with_reducible repeat (first | refine blk_drewN ?_ _ | refine blk_drew ?_ | refine blk_alloc ?_ _)); refine blk_put (cs := #[.int .i64 0, .int .i64 0, .int .i64 0, .int .i64 0, .int .i64 0, .int .i64 x370005_1, .slice none 0 0]) ?_ 5 _ rfl; (with_reducible repeat (first | refine blk_drewN ?_ _ | refine blk_drew ?_ | refine blk_alloc ?_ _)); refine blk_put (cs := #[.int .i64 0, .int .i64 0, .int .i64 0, .int .i64 0, .int .i64 x370004_1, .int .i64 x370005_1, .slice none 0 0]) ?_ 4 _ rfl; (with_reducible repeat (first | refine blk_drewN ?_ _ | refine blk_drew ?_ | refine blk_alloc ?_ _)); refine blk_put (cs := #[.int .i64 0, .int .i64 0, .int .i64 0, .int .i64 x370003_1, .int .i64 x370004_1, .int .i64 x370005_1, .slice none 0 0]) ?_ 3 _ rfl; (with_reducible repeat (first | refine blk_drewN ?_ _ | refine blk_drew ?_ | refine blk_alloc ?_ _)); refine blk_put (cs := #[.int .i64 0, .int .i64 0, .int .i64 x370002_1, .int .i64 x370003_1, .int .i64 x370004_1, .int .i64 x370005_1, .slice none 0 0]) ?_ 2 _ rfl; (with_reducible repeat (first | refine blk_drewN ?_ _ | refine blk_drew ?_ | refine blk_alloc ?_ _)); refine blk_put (cs := #[.int .i64 0, .int .i64 x370001_1, .int .i64 x370002_1, .int .i64 x370003_1, .int .i64 x370004_1, .int .i64 x370005_1, .slice none 0 0]) ?_ 1 _ rfl; (with_reducible repeat (first | refine blk_drewN ?_ _ | refine blk_drew ?_ | refine blk_alloc ?_ _)); refine blk_put (cs := #[.int .i64 x370000_1, .int .i64 x370001_1, .int .i64 x370002_1, .int .i64 x370003_1, .int .i64 x370004_1, .int .i64 x370005_1, .slice none 0 0]) ?_ 0 _ rfl; (with_reducible repeat (first | refine blk_drewN ?_ _ | refine blk_drew ?_ | refine blk_alloc ?_ _)); exact BK369.out) Tryd.underlying26 rfl (by kernel_rfl)) rfl ?_
     exact ⟨_, by first | rfl | (simp [errW_none, errW_some] <;> rfl) | (simp [*, errW_none, errW_some] <;> rfl), by first | exact Kd.R_nil _ _ _ _ _ | exact Kd.N_nil _ _ _ _ _ | exact Kd.V_nil _ _ _ _ _ | exact Kd.Q_nil _ _ _ _ _ | exact Kd.S_nil _ _ _ _ _, by repeat (first | (with_reducible first | exact HB.out | apply below_alloc | apply pw_below_drewN | apply below_drew1 | refine below_set ?_ GE369.out | refine below_set ?_ GE370.out) | exact HB.out)⟩
end Go.Proofs.YtlmdhpfggobogaaDoor.G

namespace Go.Proofs.YtlmdhpfggobogaaDoor.Pure
open Go.Proofs.YtlmdhpfggobogaaDoor.G hiding bytesOf_length
open Go.RowKit Go.Proofs.YtlmdhpfggobogaaDoorW.PrintWords Go.Proofs.YtlmdhpfggobogaaDoorW.PrintLast
set_option linter.unusedVariables false
def readP : List Int → List ByteArray → S29 → Option S29
  | [], _, o => some o
  | _ :: _, [], _ => none
  | c :: t, x :: xs, o => if c = 115 then (if (skuT x).2 = true then readP t xs { o with f4 := (skuT x).1 } else none) else match numR x with
    | some v => readP t xs (setF o c v)
    | none => none
theorem readAll_P : ∀ (T : List Int) (xs : List ByteArray) (o : S29), T.length ≤ xs.length → (∀ x ∈ xs, x.size ≤ 8796093022208) → Ev (fun k => readAll k T xs o) (readP T xs o)
  | [], _, o, _, _ => Ev.now _
  | c :: t, [], o, h, _ => by simp at h
  | c :: t, x :: xs, o, h, hx => by
    have h1 := hx x (by simp)
    have ht : t.length ≤ xs.length := by simpa using h
    have hxs : ∀ y ∈ xs, y.size ≤ 8796093022208 := fun y hy => hx y (by simp [hy])
    simp only [readP]
    by_cases hc : c = 115
    · rw [if_pos hc]
      refine Ev.congr (fun k => ?_) (Ev.bind (f := fun k r => if r.2 = true then readAll k t xs { o with f4 := r.1 } else some none) (readSku_ev x (by omega)) ?_)
      · simp only [readAll]
        rw [if_pos hc]
      · by_cases hr : (skuT x).2 = true
        · rw [if_pos hr]
          exact Ev.congr (fun k => if_pos hr) (readAll_P t xs _ ht hxs)
        · rw [if_neg hr]
          exact Ev.congr (fun k => if_neg hr) (Ev.now _)
    · rw [if_neg hc]
      have hn : script_readNumber.f x = some (rdNum x) := by unfold script_readNumber.f; rw [if_pos (by omega)]
      unfold numR
      by_cases hr : (rdNum x).2 = true
      · rw [if_pos hr]
        refine Ev.congr (fun k => ?_) (readAll_P t xs (setF o c (rdNum x).1) ht hxs)
        simp only [readAll]
        rw [if_neg hc, hn, Option.bind_some, if_pos hr]
      · rw [if_neg hr]
        refine Ev.congr (f := fun _ => some none) (fun k => ?_) (Ev.now _)
        simp only [readAll]
        rw [if_neg hc, hn, Option.bind_some, if_neg hr]
def stepP (x : ByteArray) (xs : List ByteArray) : Int × Int × Int × Int × ByteArray × Int × Int × Bool :=
  if (shp (kindUpto x 16)).1.toList == x.toList then
    (if xs.length = (shp (kindUpto x 16)).2.size then stepEnd (kindUpto x 16) (readP (bytesOf (shp (kindUpto x 16)).2) xs ⟨kindUpto x 16, 0, 0, 0, ⟨#[]⟩, 0, 0⟩) else tupB zeroO false)
  else tupB zeroO false
theorem step_P (x : ByteArray) (xs : List ByteArray) (hl : xs.length < 4611686018427387903) (hx : ∀ y ∈ xs, y.size ≤ 8796093022208) : Ev (fun k => script_step.f k (x :: xs)) (stepP x xs) := by
  show Ev (fun k => stepC k x xs) _
  unfold stepC stepP
  refine Ev.congr (fun k => if_pos (by rw [List.length_cons]; omega)) ?_
  by_cases h1 : ((shp (kindUpto x 16)).1.toList == x.toList) = true
  · rw [if_pos h1]
    refine Ev.congr (fun k => if_pos h1) ?_
    by_cases h2 : xs.length = (shp (kindUpto x 16)).2.size
    · rw [if_pos h2]
      refine Ev.congr (fun k => if_pos h2) ?_
      obtain ⟨K, hK⟩ := readAll_P (bytesOf (shp (kindUpto x 16)).2) xs ⟨kindUpto x 16, 0, 0, 0, ⟨#[]⟩, 0, 0⟩ (by rw [shp_sizes, h2]; exact Nat.le_refl _) hx
      refine ⟨K, fun k hk => ?_⟩
      have := hK k hk
      dsimp only at this ⊢
      rw [this]; rfl
    · rw [if_neg h2]
      exact Ev.congr (fun k => if_neg h2) (Ev.now _)
  · rw [if_neg h1]
    exact Ev.congr (fun k => if_neg h1) (Ev.now _)
theorem with_eq (o : S29) (c v : Int) (h : c = 115 ∨ c = 114 ∨ c = 99 ∨ c = 116 ∨ c = 113 ∨ c = 110 ∨ c = 107) (h2 : c ≠ 115) : barrowref24_with.f o.f0 o.f1 o.f2 o.f3 o.f4 o.f5 o.f6 (upL c) v = some (tupO (setF o c v)) := by
  rcases h with rfl | rfl | rfl | rfl | rfl | rfl | rfl
  · exact absurd rfl h2
  all_goals rfl
theorem rstep_l1 (x : ByteArray) (xs : List ByteArray) (hl : xs.length < 4611686018427387903) (hx : ∀ y ∈ xs, y.size ≤ 8796093022208) (kd : Int) (hk : 0 ≤ kd ∧ kd ≤ 16) (hm : xs.length = (shp kd).2.size) : ∀ (d i : Nat) (o : S29), i + d = xs.length →
    Ev (fun k => barrowref24_step.l1 k (x :: xs) kd (rshape kd) i o.f0 o.f1 o.f2 o.f3 o.f4 o.f5 o.f6) (stepEnd kd (readP ((bytesOf (shp kd).2).drop i) (xs.drop i) o))
  | 0, i, o, hd => by
    obtain ⟨_, h2, h3, _, h5⟩ := shapes kd
    have hsz : (rshape kd).size = xs.length := by rw [hm, ← G.bytesOf_length, h2, List.length_map, G.bytesOf_length]
    rw [List.drop_eq_nil_of_le (by rw [G.bytesOf_length]; omega)]
    refine Ev.step (f := fun _ => some (stepEnd kd (some o))) (fun k => ?_) (Ev.now _)
    simp only [barrowref24_step.l1]
    rw [if_neg (by omega)]
    by_cases h0 : kd = 0
    · rw [if_pos h0]
      by_cases ha : o.f0 ≥ 1
      · rw [if_pos ha]
        by_cases hb : o.f0 ≤ 16
        · rw [if_pos hb, stepEnd_bad (by unfold knownI; simp; omega) (by unfold knownI; simp; omega)]
          rfl
        · rw [if_neg hb, stepEnd_good (.inr (by unfold knownI; simp; omega))]
          rfl
      · rw [if_neg ha, stepEnd_good (.inr (by unfold knownI; simp; omega))]
        rfl
    · rw [if_neg h0, stepEnd_good (.inl (by unfold knownI; simp; omega))]
      rfl
  | d + 1, i, o, hd => by
    obtain ⟨_, h2, h3, _, h5⟩ := shapes kd
    have hsz : (rshape kd).size = xs.length := by rw [hm, ← G.bytesOf_length, h2, List.length_map, G.bytesOf_length]
    have hi : i < (bytesOf (shp kd).2).length := by rw [G.bytesOf_length]; omega
    have hix : i < xs.length := by omega
    have hci := h3 _ (List.getElem_mem hi)
    have hb : bt (rshape kd) i = upL (bytesOf (shp kd).2)[i] := by
      rw [bt_getD, h2, Int.toNat_natCast, List.getD_eq_getElem?_getD, List.getElem?_map, List.getElem?_eq_getElem hi]; rfl
    have hrd : rdOf ByteArray.empty (x :: xs) ((i + 1 : Nat) : Int) = xs[i] := by
      unfold rdOf
      rw [Int.toNat_natCast, List.getD_eq_getElem?_getD, List.getElem?_cons_succ, List.getElem?_eq_getElem hix]; rfl
    have hwn := w64_nat i (by omega)
    have hxi := hx xs[i] (List.getElem_mem hix)
    rw [List.drop_eq_getElem_cons hi, List.drop_eq_getElem_cons hix]
    generalize hc : (bytesOf (shp kd).2)[i] = c at *
    generalize hxe : xs[i] = y at *
    simp only [readP]
    have hlen : (((i + 1 : Nat) : Int) < ((x :: xs).length : Int)) := by rw [List.length_cons]; omega
    by_cases h1 : c = 115
    · rw [if_pos h1]
      have h83 : bt (rshape kd) i = 83 := by rw [hb, h1]; rfl
      have st : ∀ k, barrowref24_step.l1 (k + 1) (x :: xs) kd (rshape kd) i o.f0 o.f1 o.f2 o.f3 o.f4 o.f5 o.f6 = (barrowref24_skuOf.f k y).bind fun bt184 => (if bt184.2 = true then (barrowref24_step.l1 k (x :: xs) kd (rshape kd) ((i + 1 : Nat) : Int) o.f0 o.f1 o.f2 o.f3 bt184.1 o.f5 o.f6) else (some (0, 0, 0, 0, (⟨#[]⟩ : ByteArray), 0, 0, false))) := by
        intro k
        simp only [barrowref24_step.l1]
        rw [if_pos (by omega), if_pos (by omega), if_pos h83, hwn, if_pos (by omega), if_pos hlen, hrd]
      refine Ev.step st (Ev.bind (skuOf_ev y (by omega)) ?_)
      by_cases hr : (skuT y).2 = true
      · rw [if_pos hr]
        refine Ev.congr (fun k => if_pos hr) ?_
        exact rstep_l1 x xs hl hx kd hk hm d (i + 1) { o with f4 := (skuT y).1 } (by omega)
      · rw [if_neg hr]
        exact Ev.congr (fun k => if_neg hr) (Ev.now _)
    · rw [if_neg h1]
      have h83 : ¬ bt (rshape kd) i = 83 := by rw [hb]; unfold upL; omega
      have st : ∀ k, barrowref24_step.l1 (k + 1) (x :: xs) kd (rshape kd) i o.f0 o.f1 o.f2 o.f3 o.f4 o.f5 o.f6 = (barrowref24_numberOf.f k y).bind fun bt187 => (if bt187.2 = true then ((barrowref24_with.f o.f0 o.f1 o.f2 o.f3 o.f4 o.f5 o.f6 (bt (rshape kd) i) bt187.1).bind fun bt189 => (barrowref24_step.l1 k (x :: xs) kd (rshape kd) ((i + 1 : Nat) : Int) bt189.1 bt189.2.1 bt189.2.2.1 bt189.2.2.2.1 bt189.2.2.2.2.1 bt189.2.2.2.2.2.1 bt189.2.2.2.2.2.2)) else (some (0, 0, 0, 0, (⟨#[]⟩ : ByteArray), 0, 0, false))) := by
        intro k
        simp only [barrowref24_step.l1]
        rw [if_pos (by omega), if_pos (by omega), if_neg h83, hwn, if_pos (by omega), if_pos hlen, hrd]
      refine Ev.step st (Ev.bind (numberOf_ev y) ?_)
      cases hn : numR y with
      | none =>
        exact Ev.congr (fun k => if_neg (by decide)) (Ev.now _)
      | some v =>
        refine Ev.congr (f := fun k => barrowref24_step.l1 k (x :: xs) kd (rshape kd) ((i + 1 : Nat) : Int) (setF o c v).f0 (setF o c v).f1 (setF o c v).f2 (setF o c v).f3 (setF o c v).f4 (setF o c v).f5 (setF o c v).f6) (fun k => ?_) (rstep_l1 x xs hl hx kd hk hm d (i + 1) (setF o c v) (by omega))
        show (if true = true then _ else _) = _
        rw [if_pos rfl]
        show (barrowref24_with.f o.f0 o.f1 o.f2 o.f3 o.f4 o.f5 o.f6 (bt (rshape kd) i) v).bind _ = _
        rw [hb, with_eq o c v hci h1, Option.bind_some]
        rfl
theorem toList_beq (s t : ByteArray) : (s.toList == t.toList) = true ↔ s = t := by
  rw [beq_iff_eq]
  constructor
  · intro h
    rw [ByteArray.toList_eq, ByteArray.toList_eq] at h
    cases s; cases t
    simp only [ByteArray.mk.injEq]
    exact Array.toList_inj.1 h
  · intro h; rw [h]
theorem kindUpto_range (x : ByteArray) : ∀ n : Nat, 0 ≤ kindUpto x n ∧ kindUpto x n ≤ n
  | 0 => ⟨Int.le_refl _, Int.le_refl _⟩
  | n + 1 => by
    have := kindUpto_range x n
    unfold kindUpto
    split <;> omega
theorem kindUpto_of (x : ByteArray) (j : Nat) (hj : j ≤ 16) (h : (shp (j : Int)).1 = x) : kindUpto x 16 = (j : Int) := by
  subst h
  by_cases h0 : j = 0
  · subst h0
    have e : (shp ((0 : Nat) : Int)).1 = opWord := by rw [(out_of (a0 := ((0 : Nat) : Int)) (by omega)).1]
    rw [e]; exact kind_op
  · exact kind_known (j : Int) (by omega)
theorem rstep_l0 (x : ByteArray) (xs : List ByteArray) (hl : xs.length < 4611686018427387903) (hx : ∀ y ∈ xs, y.size ≤ 8796093022208) : ∀ (d j : Nat), j + d = 17 → (∀ i : Nat, i < j → ¬ (xs.length = (shp (i : Int)).2.size ∧ (shp (i : Int)).1 = x)) →
    Ev (fun k => barrowref24_step.l0 k (x :: xs) j) (stepP x xs)
  | 0, j, hd, hno => by
    have hr := kindUpto_range x 16
    obtain ⟨q, hq⟩ : ∃ q : Nat, kindUpto x 16 = (q : Int) := ⟨(kindUpto x 16).toNat, by omega⟩
    have hn := hno q (by omega)
    have e : stepP x xs = tupB zeroO false := by
      unfold stepP
      rw [hq]
      by_cases h1 : ((shp (q : Int)).1.toList == x.toList) = true
      · rw [if_pos h1, if_neg (fun h2 => hn ⟨h2, (toList_beq _ _).1 h1⟩)]
      · rw [if_neg h1]
    rw [e]
    refine Ev.step (f := fun _ => some (0, 0, 0, 0, (⟨#[]⟩ : ByteArray), 0, 0, false)) (fun k => ?_) (Ev.now _)
    simp only [barrowref24_step.l0]
    rw [if_neg (by omega)]
  | d + 1, j, hd, hno => by
    obtain ⟨h1, h2, h3, _, h5⟩ := shapes (j : Int)
    have hsz : (rshape (j : Int)).size = (shp (j : Int)).2.size := by rw [← G.bytesOf_length, h2, List.length_map, G.bytesOf_length]
    have hrd : rdOf ByteArray.empty (x :: xs) 0 = x := rfl
    have hw : wrap64 (((rshape (j : Int)).size : Int) + 1) = (((rshape (j : Int)).size + 1 : Nat) : Int) := w64_nat _ (by omega)
    have next : (¬ (xs.length = (shp (j : Int)).2.size ∧ (shp (j : Int)).1 = x)) → Ev (fun k => barrowref24_step.j1 k (x :: xs) j (rshape (j : Int)) true) (stepP x xs) := by
      intro hn
      have ih := rstep_l0 x xs hl hx d (j + 1) (by omega) (fun i hi => by
        by_cases e : i = j
        · rw [e]; exact hn
        · exact hno i (by omega))
      refine Ev.step (fun k => ?_) ih
      simp only [barrowref24_step.j1]
      rw [if_pos trivial, w64_nat j (by omega)]
    by_cases hlen : xs.length = (shp (j : Int)).2.size
    · have st : ∀ k, barrowref24_step.l0 (k + 1) (x :: xs) j = barrowref24_step.j1 k (x :: xs) j (rshape (j : Int)) (x.toList != (shp (j : Int)).1.toList) := by
        intro k
        simp only [barrowref24_step.l0]
        rw [if_pos (by omega), rshape_eq, Option.bind_some, hw, if_pos (by rw [List.length_cons]; omega), if_pos (by rw [List.length_cons]; omega), rword_eq, Option.bind_some, hrd, h1]
      refine Ev.step st ?_
      by_cases hwd : (shp (j : Int)).1 = x
      · have e1 : (x.toList != (shp (j : Int)).1.toList) = false := by rw [hwd]; simp
        have hkd := kindUpto_of x j (by omega) hwd
        rw [e1]
        have e2 : stepP x xs = stepEnd (j : Int) (readP (bytesOf (shp (j : Int)).2) xs ⟨(j : Int), 0, 0, 0, ⟨#[]⟩, 0, 0⟩) := by
          unfold stepP
          rw [hkd, if_pos ((toList_beq _ _).2 hwd), if_pos hlen]
        rw [e2]
        have main := rstep_l1 x xs hl hx (j : Int) (by omega) hlen xs.length 0 ⟨(j : Int), 0, 0, 0, ⟨#[]⟩, 0, 0⟩ (by omega)
        rw [List.drop_zero, List.drop_zero] at main
        refine Ev.step (fun k => ?_) main
        simp only [barrowref24_step.j1]
        rw [if_neg (by decide)]
        rfl
      · have e1 : (x.toList != (shp (j : Int)).1.toList) = true := by
          rw [bne_iff_ne]
          intro e
          exact hwd ((toList_beq _ _).1 (by rw [beq_iff_eq]; exact e.symm))
        rw [e1]
        exact next (fun e => hwd e.2)
    · refine Ev.step (fun k => ?_) (next (fun e => hlen e.1))
      simp only [barrowref24_step.l0]
      rw [if_pos (by omega), rshape_eq, Option.bind_some, hw, if_neg (by rw [List.length_cons]; omega)]
theorem rstep_P (x : ByteArray) (xs : List ByteArray) (hl : xs.length < 4611686018427387903) (hx : ∀ y ∈ xs, y.size ≤ 8796093022208) : Ev (fun k => barrowref24_step.f k (x :: xs)) (stepP x xs) :=
  rstep_l0 x xs hl hx 17 0 (by omega) (fun i hi => by omega)
theorem words_small (s : ByteArray) (hs : s.size < 8796093022208) {w : List Int} {ws : List (List Int)} (h : run false (bytesOf s) .gap [] = some (w :: ws)) : (ws.map strOfNums).length < 4611686018427387903 ∧ ∀ y ∈ ws.map strOfNums, y.size ≤ 8796093022208 := by
  have h1 := run_len false _ _ _ _ rfl h
  rw [G.bytesOf_length] at h1
  simp [stW] at h1
  have h2 := run_size false s.size _ _ _ _ (by simp) (by rw [G.bytesOf_length]; simp [stW]) h
  refine ⟨by rw [List.length_map]; omega, fun y hy => ?_⟩
  obtain ⟨u, hu, rfl⟩ := List.mem_map.1 hy
  have := h2 u (by simp [hu])
  have e : (strOfNums u).size = u.length := by rw [← G.bytesOf_length]; simp [bytesOf, strOfNums]
  omega
end Go.Proofs.YtlmdhpfggobogaaDoor.Pure
