/-
  Each act on any item that can be leads where the document says, or is refused, and then the item stays.
-/
import Derived.Test.YtbmnpjalekailaaRowItemActs
import Derived.Test.YtbmnpjalekailaaPActs
namespace Go.Proofs.Ytbmnpjalekailaa.Pure
open Go.RowKit Go.Proofs.Ytbmnpjalekailaa.M Go.Proofs.YtbmnpjalekailaaW.PrintWords Go.Proofs.YtbmnpjalekailaaW.PrintLast Go.Proofs.YtbmnpjalekailaaW.PrintMore
theorem ItemActs : contralaw09_ItemActs.Pure := by
  rintro ⟨⟨s, n⟩, b, c, a, r, st, cy⟩ kind m - - -
  dsimp only
  refine Ev.rounds ?_
  unfold contralaw09_ItemActs.f
  refine Ev.bind Item.lives_ev (Ev.pos rfl ?_)
  refine Ev.bind (Item.ref_check_ev _ _ _ _ _ _ _ _) ?_
  by_cases h : Item.chk s n b c a r st cy = 0
  · refine Ev.pos h (Ev.bind (Item.act_ev _ _ _ _ _ _ _ _ _ _) (Ev.bind (Item.ref_act_ev _ _ _ _ _ _ _ _ _ _) ?_))
    have hf := Item.acted_fit kind m h
    dsimp only at hf
    have hf' := (Item.chk_fit _ _ _ _ _ _ _ _).mp hf
    refine Ev.pos rfl (Ev.pos (by simp) (Ev.bind (Item.check_ev _ _ _ _ _ _ _ _) (Ev.pos hf ?_)))
    refine Ev.bind (Item.rank_ev _ _ _ _ _ _ _ (by omega) (by omega)) (Ev.bind (Item.ref_rank_ev _ _ _ _ _ _ _ (by omega) (by omega)) (Ev.some_ ?_))
    simp
  · exact Ev.neg h (Ev.now _)
end Go.Proofs.Ytbmnpjalekailaa.Pure
