/-
  Bytes that come in parts have the check of them all: for any three lists of bytes (longer ones are let go by the statement itself).
-/
import Derived.Test.YtipkgplkeebhkaaMx3
import Derived.Test.YtipkgplkeebhkaaPCrc
import Derived.Test.YtipkgplkeebhkaaPEv
namespace Go.Proofs.Ytipkgplkeebhkaa.Pure
open Go.RowKit Go.Proofs.Ytipkgplkeebhkaa.M Go.Proofs.YtipkgplkeebhkaaW.PrintWords Go.Proofs.YtipkgplkeebhkaaW.PrintLast
theorem CrcParts : contralaw03_CrcParts.Pure := by
  intro l0 l1 l2 _ s0 b0 _ s1 b1 _ s2 b2
  refine Ev.rounds ?_
  have B0 : ∀ x ∈ l0, Crc.Byte x := fun x hx => Crc.wf_byte (b0 x hx)
  have B1 : ∀ x ∈ l1, Crc.Byte x := fun x hx => Crc.wf_byte (b1 x hx)
  have B2 : ∀ x ∈ l2, Crc.Byte x := fun x hx => Crc.wf_byte (b2 x hx)
  unfold contralaw03_CrcParts.f
  refine Ev.bind Crc.known_ev (Ev.pos rfl ?_)
  have hj : ∀ b, (b = false → l0.length + l1.length ≤ 2000 ∧ l2.length ≤ 2000) → Ev (fun k => contralaw03_CrcParts.j0 k l0 l1 l2 b) true := by
    intro b hb
    refine Ev.up ?_
    simp only [contralaw03_CrcParts.j0]
    cases b with
    | true => exact Ev.pos rfl (Ev.now _)
    | false =>
      obtain ⟨h1, h2⟩ := hb rfl
      refine Ev.neg (by decide) (Ev.let_ (Ev.pos (by simp; omega) (Ev.let_ (Ev.pos (by simp; omega) (Ev.let_ (Ev.pos (by simp; omega) ?_))))))
      have e0 := Crc.add_ev l0 B0 (by omega) 0#32
      have e1 := Crc.add_ev l1 B1 (by omega) (Crc.crc 0#32 l0)
      have e2 := Crc.add_ev l2 B2 (by omega) (Crc.crc (Crc.crc 0#32 l0) l1)
      have ea := Crc.of_ev (([] ++ l0) ++ l1 ++ l2) (by intro x hx; simp at hx; rcases hx with h | h | h; exact B0 x h; exact B1 x h; exact B2 x h) (by simp; omega)
      have eo := Crc.of_ev l0 B0 (by omega)
      refine Ev.bind e0 (Ev.bind e1 (Ev.bind e2 ?_))
      simp only [crc_Sum_Value.f, Option.bind_some]
      refine Ev.bind ea (Ev.pos ?_ (Ev.bind eo (Ev.pos rfl (Ev.some_ rfl))))
      rw [List.nil_append, Crc.crc_append, Crc.crc_append]
  by_cases h1 : wrap64 ((l0.length : Int) + (l1.length : Int)) > 2000
  · exact Ev.pos h1 (hj true (by simp))
  · refine Ev.neg h1 (hj _ (fun h => ?_))
    have h2 : ¬ ((l2.length : Int) > 2000) := of_decide_eq_false h
    rw [w64 (by omega) (by omega)] at h1
    omega
end Go.Proofs.Ytipkgplkeebhkaa.Pure
