/-
  A record is written as the document says, behind what is there, and read as it was, whatever is behind it: for any three lists of bytes (longer ones are let go by the statement itself).
-/
import Derived.Test.YtipkgplkeebhkaaMx5
import Derived.Test.YtipkgplkeebhkaaPFrame
namespace Go.Proofs.Ytipkgplkeebhkaa.Pure
open Go.RowKit Go.Proofs.Ytipkgplkeebhkaa.M Go.Proofs.YtipkgplkeebhkaaW.PrintWords Go.Proofs.YtipkgplkeebhkaaW.PrintLast Go.Proofs.YtipkgplkeebhkaaW.PrintMore
theorem FrameWrites : contralaw05_FrameWrites.Pure := by
  intro l0 l1 l2 _ s0 b0 _ s1 b1 _ s2 b2
  refine Ev.rounds ?_
  have B0 : Frame.Bytes l0 := fun x hx => Crc.wf_byte (b0 x hx)
  have B1 : Frame.Bytes l1 := fun x hx => Crc.wf_byte (b1 x hx)
  have B2 : Frame.Bytes l2 := fun x hx => Crc.wf_byte (b2 x hx)
  unfold contralaw05_FrameWrites.f
  refine Ev.bind Frame.records_ev (Ev.pos rfl ?_)
  have hj : ∀ b, (b = false → l0.length ≤ 500 ∧ l1.length ≤ 17000 ∧ l2.length ≤ 500) → Ev (fun k => contralaw05_FrameWrites.j0 k l0 l1 l2 b) true := by
    intro b hb
    refine Ev.up ?_
    simp only [contralaw05_FrameWrites.j0]
    cases b with
    | true => exact Ev.pos rfl (Ev.now _)
    | false =>
      obtain ⟨h0, h1, h2⟩ := hb rfl
      refine Ev.neg (by decide) ?_
      by_cases hL : l1.length ≤ 16384
      · have ha := Frame.append_ev l0 l1 B1 hL (by omega)
        have hw := Frame.ref_write_ev (strOfNums l1) (by rw [strOfNums_size]; exact hL)
        rw [bs_str l1 B1] at hw
        have hrl := Frame.rec_length l1
        refine Ev.bind ha (Ev.bind hw ?_)
        dsimp only
        refine Ev.pos rfl (Ev.pos rfl (Ev.pos ?_ (Ev.pos ?_ (Ev.let_ ?_))))
        · rw [strOfNums_size, strOfNums_size]; omega
        · rw [toList_eq_iff, bs_append, bs_str _ (B0.append (Frame.rec_bytes B1)), bs_str _ B0, bs_str _ (Frame.rec_bytes B1)]
        rw [Int.toNat_natCast, List.drop_left' rfl]
        refine Ev.pos (by omega) (Ev.pos (by rw [List.length_append]; omega) (Ev.let_ (Ev.pos (by simp; omega) (Ev.let_ ?_))))
        rw [List.nil_append]
        refine Ev.pos (by omega) ?_
        have hr := Frame.read_ev (Frame.rec_ l1 ++ l2) ((Frame.rec_bytes B1).append B2) (by rw [List.length_append]; omega)
        rw [Frame.read_rec B1 hL l2] at hr
        refine Ev.bind hr (Ev.pos rfl (Ev.pos rfl (Ev.some_ ?_)))
        rw [strOfNums_size, hrl, beq_iff_eq]
        dsimp only
        omega
      · have ha := Frame.append_long l0 l1 (by omega)
        have hw := Frame.ref_write_long (strOfNums l1) (by rw [strOfNums_size]; omega)
        exact Ev.bind ha (Ev.bind hw (Ev.pos rfl (Ev.neg (by decide) (Ev.now _))))
  by_cases h0 : (l0.length : Int) > 500
  · exact Ev.pos h0 (hj true (by simp))
  · refine Ev.neg h0 ?_
    by_cases h1 : (l1.length : Int) > 17000
    · exact Ev.pos h1 (hj true (by simp))
    · refine Ev.neg h1 (hj _ (fun h => ?_))
      have := of_decide_eq_false h
      omega
end Go.Proofs.Ytipkgplkeebhkaa.Pure
