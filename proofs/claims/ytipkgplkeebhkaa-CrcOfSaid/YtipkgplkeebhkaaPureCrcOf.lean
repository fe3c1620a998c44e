/-
  The check of any bytes is what is left of the division: for every list of bytes (more than 1000 are let go by the statement itself).
-/
import Derived.Test.YtipkgplkeebhkaaMx3
import Derived.Test.YtipkgplkeebhkaaPRef03
namespace Go.Proofs.Ytipkgplkeebhkaa.Pure
open Go.RowKit Go.Proofs.Ytipkgplkeebhkaa.M Go.Proofs.YtipkgplkeebhkaaW.PrintWords Go.Proofs.YtipkgplkeebhkaaW.PrintLast
theorem CrcOf : contralaw03_CrcOf.Pure := by
  intro l _ s0 b0
  refine Ev.rounds ?_
  have B : ∀ x ∈ l, Crc.Byte x := fun x hx => Crc.wf_byte (b0 x hx)
  unfold contralaw03_CrcOf.f
  refine Ev.bind Crc.known_ev (Ev.pos rfl ?_)
  by_cases h1 : (l.length : Int) > 1000
  · exact Ev.pos h1 (Ev.now _)
  · refine Ev.neg h1 ?_
    have hr := Ref03.of_ev (strOfNums l) (by rw [strOfNums_size]; omega)
    rw [bs_str l B] at hr
    refine Ev.bind (Crc.of_ev l B (by omega)) (Ev.bind hr (Ev.some_ ?_))
    have := (Crc.crc 0#32 l).isLt
    rw [w64 (by omega) (by omega)]
    exact beq_self_eq_true _
end Go.Proofs.Ytipkgplkeebhkaa.Pure
