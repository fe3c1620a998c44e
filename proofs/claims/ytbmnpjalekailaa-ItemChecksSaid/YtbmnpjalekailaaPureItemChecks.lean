/-
  Whether any raw item can be is the document's answer; and a new one is proposed, in its first round.
-/
import Derived.Test.YtbmnpjalekailaaRowItemChecks
import Derived.Test.YtbmnpjalekailaaPLives
namespace Go.Proofs.Ytbmnpjalekailaa.Pure
open Go.RowKit Go.Proofs.Ytbmnpjalekailaa.M Go.Proofs.YtbmnpjalekailaaW.PrintWords Go.Proofs.YtbmnpjalekailaaW.PrintLast Go.Proofs.YtbmnpjalekailaaW.PrintMore
theorem chk_new {s n b c a : Int} (h : Item.chk s n b c a 0 1 0 ≠ 0) : Item.chk s n b c a 0 1 0 = 1 := by
  unfold Item.chk at h ⊢
  split
  · next h1 => rw [if_pos h1] at h; simp at h
  · rfl
theorem ItemChecks : contralaw09_ItemChecks.Pure := by
  rintro ⟨⟨s, n⟩, b, c, a, r, st, cy⟩ -
  refine Ev.rounds ?_
  unfold contralaw09_ItemChecks.f
  refine Ev.bind Item.lives_ev (Ev.pos rfl ?_)
  refine Ev.bind (Item.check_ev _ _ _ _ _ _ _ _) (Ev.bind (Item.ref_check_ev _ _ _ _ _ _ _ _) (Ev.pos rfl ?_))
  unfold item_New.f
  by_cases h : Item.chk s n b c a 0 1 0 = 0
  · refine Ev.bind (Ev.bind (Item.check_ev _ _ _ _ _ _ _ _) (Ev.pos h (Ev.now _))) ?_
    refine Ev.bind (Item.ref_check_ev _ _ _ _ _ _ _ _) (Ev.pos h (Ev.pos rfl (Ev.some_ ?_)))
    simp
  · refine Ev.bind (Ev.bind (Item.check_ev _ _ _ _ _ _ _ _) (Ev.neg h (Ev.now _))) ?_
    refine Ev.bind (Item.ref_check_ev _ _ _ _ _ _ _ _) (Ev.neg h (Ev.pos (chk_new h) (Ev.some_ ?_)))
    simp
end Go.Proofs.Ytbmnpjalekailaa.Pure
