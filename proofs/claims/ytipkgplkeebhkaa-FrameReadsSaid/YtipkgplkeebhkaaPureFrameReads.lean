/-
  The record at the beginning of any bytes, or why there is none, is the document's answer: for every list of bytes (more than 20000 are let go by the statement itself).
-/
import Derived.Test.YtipkgplkeebhkaaMx6
import Derived.Test.YtipkgplkeebhkaaPFrame
namespace Go.Proofs.Ytipkgplkeebhkaa.Pure
open Go.RowKit Go.Proofs.Ytipkgplkeebhkaa.M Go.Proofs.YtipkgplkeebhkaaW.PrintWords Go.Proofs.YtipkgplkeebhkaaW.PrintLast Go.Proofs.YtipkgplkeebhkaaW.PrintMore
theorem FrameReads : contralaw05_FrameReads.Pure := by
  intro l _ s0 b0
  refine Ev.rounds ?_
  have B : Frame.Bytes l := fun x hx => Crc.wf_byte (b0 x hx)
  unfold contralaw05_FrameReads.f
  refine Ev.bind Frame.records_ev (Ev.pos rfl ?_)
  by_cases h1 : (l.length : Int) > 20000
  · exact Ev.pos h1 (Ev.now _)
  · refine Ev.neg h1 ?_
    have hr := Frame.ref_read_ev (strOfNums l) 0 (Nat.zero_le _) (by rw [strOfNums_size]; omega)
    rw [bs_str l B, List.drop_zero] at hr
    exact Ev.bind (Frame.read_ev l B (by omega)) (Ev.bind hr (Ev.pos rfl (Ev.pos rfl (Ev.some_ (beq_self_eq_true _)))))
end Go.Proofs.Ytipkgplkeebhkaa.Pure
