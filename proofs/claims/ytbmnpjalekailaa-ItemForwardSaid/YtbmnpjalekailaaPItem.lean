/-
  An item, plainly: whether it can be, and each act; the program's functions and the document's come to these.
-/
import Derived.Test.YtbmnpjalekailaaMx4
import Derived.Test.YtbmnpjalekailaaPEv
namespace Go.Proofs.Ytbmnpjalekailaa.Pure
open Go.RowKit Go.Proofs.Ytbmnpjalekailaa.M Go.Proofs.YtbmnpjalekailaaW.PrintWords Go.Proofs.YtbmnpjalekailaaW.PrintLast Go.Proofs.YtbmnpjalekailaaW.PrintMore
namespace Item
/-- the error's number of an item: seller, number, buyer, currency, amount, round, state, cycle -/
def chk (s n b c a r st cy : Int) : Int :=
  if 0 ≤ s ∧ s ≤ 7 ∧ 0 ≤ b ∧ b ≤ 7 ∧ b ≠ s ∧ 1 ≤ n ∧ n ≤ 1048576 ∧ 0 ≤ c ∧ c ≤ 7 ∧ 1 ≤ a ∧ a ≤ 1125899906842624 ∧ 0 ≤ r ∧ r ≤ 3 ∧ 1 ≤ st ∧ st ≤ 5 ∧ 0 ≤ cy ∧ cy ≤ 1048576 then
    (if (cy ≠ 0 ∧ st ≠ 3 ∧ st ≠ 5) ∨ (cy = 0 ∧ st = 5) then 90 else 0) else 1
theorem check_ev (s n b c a r st cy : Int) : Ev (fun k => item_Check.f k s n b c a r st cy) (chk s n b c a r st cy) := by
  refine Ev.of (item_Check.mono s n b c a r st cy) (k := 12) ?_
  simp only [item_Check.f, item_Check.j0, item_Check.j1, item_Check.j2, item_Check.j3, item_Check.j4, item_Check.j5, item_Check.j6, item_Check.j7, item_Check.j8, chk, decide_eq_true_eq, beq_iff_eq, bne_iff_ne, if_true, Bool.false_eq_true, if_false]
  grind (splits := 60)
theorem ref_in (a b c : Int) : contraref09_in.f a b c = some (decide (b ≤ a ∧ a ≤ c)) := by
  unfold contraref09_in.f
  by_cases h : a ≥ b
  · rw [if_pos h]
    congr 1
    rw [decide_eq_decide]
    exact ⟨fun h2 => ⟨h, h2⟩, fun h2 => h2.2⟩
  · rw [if_neg h]
    congr 1
    rw [eq_comm, decide_eq_false_iff_not]
    exact fun h2 => h h2.1
theorem ref_check_ev (s n b c a r st cy : Int) : Ev (fun k => contraref09_Check.f k s n b c a r st cy) (chk s n b c a r st cy) := by
  refine Ev.of (contraref09_Check.mono s n b c a r st cy) (k := 12) ?_
  simp only [contraref09_Check.f, contraref09_Check.j0, contraref09_Check.j1, ref_in, Option.bind_some, chk, decide_eq_true_eq, Bool.not_eq_true', decide_eq_false_iff_not, if_true]
  grind (splits := 60)
end Item
end Go.Proofs.Ytbmnpjalekailaa.Pure
