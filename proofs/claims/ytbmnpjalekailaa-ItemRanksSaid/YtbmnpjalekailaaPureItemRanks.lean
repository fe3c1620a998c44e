/-
  How far any raw item has come is the document's answer.
-/
import Derived.Test.YtbmnpjalekailaaRowItemRanks
import Derived.Test.YtbmnpjalekailaaPRank
namespace Go.Proofs.Ytbmnpjalekailaa.Pure
open Go.RowKit Go.Proofs.Ytbmnpjalekailaa.M Go.Proofs.YtbmnpjalekailaaW.PrintWords Go.Proofs.YtbmnpjalekailaaW.PrintLast Go.Proofs.YtbmnpjalekailaaW.PrintMore
theorem ItemRanks : contralaw09_ItemRanks.Pure := by
  rintro ⟨⟨s, n⟩, b, c, a, r, st, cy⟩ -
  refine Ev.rounds ?_
  unfold contralaw09_ItemRanks.f
  refine Ev.bind Item.lives_ev (Ev.pos rfl ?_)
  by_cases h1 : r < -1073741824
  · refine Ev.pos h1 (Ev.up ?_)
    simp only [contralaw09_ItemRanks.j0]
    exact Ev.pos trivial (Ev.now _)
  · refine Ev.neg h1 (Ev.up ?_)
    dsimp only
    by_cases h2 : r > 1073741824
    · exact Ev.pos (decide_eq_true h2) (Ev.now _)
    · refine Ev.neg (by simpa using h2) ?_
      refine Ev.bind (Item.rank_ev (r := r) s n b c a st cy (by omega) (by omega)) (Ev.bind (Item.ref_rank_ev (r := r) s n b c a st cy (by omega) (by omega)) (Ev.pos rfl ?_))
      unfold item_Over.f
      by_cases h4 : st = 4
      · refine Ev.bind (Ev.pos h4 (Ev.now _)) (Ev.pos h4 (Ev.some_ rfl))
      · refine Ev.bind (Ev.neg h4 (Ev.now _)) (Ev.neg h4 (Ev.some_ ?_))
        simp
end Go.Proofs.Ytbmnpjalekailaa.Pure
