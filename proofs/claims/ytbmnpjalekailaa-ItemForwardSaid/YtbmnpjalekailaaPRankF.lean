/-
  How far an item has come, plainly.
-/
import Derived.Test.YtbmnpjalekailaaMx5
import Derived.Test.YtbmnpjalekailaaPLives
namespace Go.Proofs.Ytbmnpjalekailaa.Pure
open Go.RowKit Go.Proofs.Ytbmnpjalekailaa.M Go.Proofs.YtbmnpjalekailaaW.PrintWords Go.Proofs.YtbmnpjalekailaaW.PrintLast Go.Proofs.YtbmnpjalekailaaW.PrintMore
namespace Item
def rank (r st : Int) : Int := if st = 1 then 2 * r else if st = 2 then 2 * r + 1 else if st = 3 ∨ st = 4 then 8 else if st = 5 then 9 else -1
theorem rank_ev {r : Int} (s n b c a st cy : Int) (h0 : -1073741824 ≤ r) (h1 : r ≤ 1073741824) : Ev (fun k => item_Rank.f k s n b c a r st cy) (rank r st) := by
  refine Ev.of (item_Rank.mono s n b c a r st cy) (k := 3) ?_
  have e0 : wrap64 (2 * r) = 2 * r := w64 (by omega) (by omega)
  have e1 : wrap64 (2 * r + 1) = 2 * r + 1 := w64 (by omega) (by omega)
  unfold item_Rank.f rank
  simp only [item_Rank.j0, e0, e1, beq_iff_eq]
  grind
end Item
end Go.Proofs.Ytbmnpjalekailaa.Pure
