/- SpanReads: Read agrees with the document's. For every text of at most 1048576 bytes. -/
import Derived.Test.YtlmdcpooogaolaaDoorGx17
import Derived.Test.YtlmdcpooogaolaaDoorRfD
import Derived.Test.YtlmdcpooogaolaaDoorAlE
namespace Go.Proofs.YtlmdcpooogaolaaDoor.Pure
open Go.RowKit Go.Proofs.YtlmdcpooogaolaaDoor.G Go.Proofs.YtlmdcpooogaolaaDoor.Txt Go.Proofs.YtlmdcpooogaolaaDoorW.PrintWords Go.Proofs.YtlmdcpooogaolaaDoorW.PrintLast
theorem read_fit (s : ByteArray) (hs : s.size ≤ 1048576) : Fit (readD s).1 := by
  have hl : ((split s).map runD).length ≤ s.size + 1 := by rw [List.length_map]; exact spl_len _ s
  unfold readD
  split
  · exact Nat.zero_le _
  · split
    · split
      · show ((split s).map runD).length ≤ _; omega
      · exact Nat.zero_le _
    · exact Nat.zero_le _
theorem readf (s : ByteArray) (hs : s.size ≤ 1048576) : span_Read.f s = some ((readD s).1, (readD s).2) := by
  unfold span_Read.f; rw [if_pos (by omega)]
theorem read_ex1 : readD (⟨#[49, 44, 51, 46, 46, 52]⟩ : ByteArray) = ([⟨1, 1⟩, ⟨3, 4⟩], 0) :=
  read_txt _ [⟨1, 1⟩, ⟨3, 4⟩] ((normB_iff _ _).1 (by decide)) (by simp) (by decide +kernel)
theorem SpanReads (s : ByteArray) (hs : s.size ≤ 1048576) : ∃ k, barrowlaw01_SpanReads.f k s = some true := by
  refine Ev.rounds ?_
  unfold barrowlaw01_SpanReads.f
  have h1 := refRead_ev s hs
  rw [read_eq] at h1
  have h2 := eq_ev (readD s).1 (readD s).1 (read_fit s hs)
  rw [decide_eq_true rfl] at h2
  have h3 := h1.bind (f := fun (k : Nat) (x : List S32 × Int) => if (readD s).2 = x.2 then (barrowref01_Equal.f k (readD s).1 x.1).bind fun t => some t else some false) (r := true) (by
    refine ev_congr (f := fun k => (barrowref01_Equal.f k (readD s).1 (readD s).1).bind fun t => some t) (fun k => ?_) (h2.bind (Ev.now _))
    rw [if_pos rfl])
  refine Ev.step (fun k => ?_) h3
  rw [readf _ (by decide +kernel), Option.bind_some, read_ex1, if_pos rfl]
  simp only [barrowlaw01_SpanReads.j0]
  rw [if_neg (by decide), readf s hs, Option.bind_some]
end Go.Proofs.YtlmdcpooogaolaaDoor.Pure
