/-
  An item is locked by one cycle at a time; freed it may be locked by another; settled it has that cycle for ever.
-/
import Derived.Test.YtbmnpjalekailaaRowItemLocks
import Derived.Test.YtbmnpjalekailaaPRank
namespace Go.Proofs.Ytbmnpjalekailaa.Pure
open Go.RowKit Go.Proofs.Ytbmnpjalekailaa.M Go.Proofs.YtbmnpjalekailaaW.PrintWords Go.Proofs.YtbmnpjalekailaaW.PrintLast Go.Proofs.YtbmnpjalekailaaW.PrintMore
theorem locks_off (s n b c a r st cy m1 m2 : Int) : Ev (fun k => contralaw09_ItemLocks.j0 k m1 m2 true s n b c a r st cy) true := by
  refine Ev.up ?_
  simp only [contralaw09_ItemLocks.j0]
  exact Ev.pos trivial (Ev.now _)
/-- a lock of an agreed item that is not locked, by a cycle that can be -/
theorem lock_on (s n b c a r m : Int) (h1 : 1 ≤ m) (h2 : m ≤ 1048576) : Ev (fun k => item_Lock.f k s n b c a r 3 0 m) (s, n, b, c, a, r, 3, m, 0) := by
  refine Ev.of (item_Lock.mono s n b c a r 3 0 m) (k := 2) ?_
  simp only [item_Lock.f, item_Lock.j0]
  grind
/-- a lock of an item that is locked -/
theorem lock_no (s n b c a r cy m : Int) (h : cy ≠ 0) : Ev (fun k => item_Lock.f k s n b c a r 3 cy m) (s, n, b, c, a, r, 3, cy, 90) := by
  refine Ev.of (item_Lock.mono s n b c a r 3 cy m) (k := 2) ?_
  simp only [item_Lock.f, item_Lock.j0]
  grind
theorem Ev.is {α : Type} {x : Option α} {r : α} (h : x = some r) : Ev (fun _ => x) r := Ev.congr (fun _ => h) (Ev.now r)
theorem ItemLocks : contralaw09_ItemLocks.Pure := by
  rintro ⟨⟨s, n⟩, b, c, a, r, st, cy⟩ m1 m2 - - -
  dsimp only
  refine Ev.rounds ?_
  unfold contralaw09_ItemLocks.f
  refine Ev.bind Item.lives_ev (Ev.pos rfl ?_)
  refine Ev.bind (Item.ref_check_ev _ _ _ _ _ _ _ _) ?_
  by_cases h : Item.chk s n b c a r st cy = 0
  case neg => exact Ev.neg h (locks_off ..)
  refine Ev.pos h ?_
  by_cases h1 : st = 3
  case neg => exact Ev.neg h1 (locks_off ..)
  refine Ev.pos h1 ?_
  by_cases h2 : cy = 0
  case neg => exact Ev.neg h2 (locks_off ..)
  refine Ev.pos h2 ?_
  by_cases h3 : m1 < 1
  · exact Ev.pos h3 (locks_off ..)
  refine Ev.neg h3 ?_
  by_cases h4 : m1 > 1048576
  · exact Ev.pos h4 (locks_off ..)
  refine Ev.neg h4 ?_
  by_cases h5 : m2 < 1
  · exact Ev.pos h5 (locks_off ..)
  refine Ev.neg h5 ?_
  by_cases h6 : m2 > 1048576
  · rw [decide_eq_true h6]; exact locks_off ..
  rw [decide_eq_false h6]
  subst h1 h2
  have hr : -1073741824 ≤ r ∧ r ≤ 1073741824 := by
    unfold Item.chk at h
    split at h <;> omega
  refine Ev.up ?_
  simp only [contralaw09_ItemLocks.j0]
  refine Ev.neg (by simp) ?_
  refine Ev.bind (lock_on s n b c a r m1 (by omega) (by omega)) ?_
  refine Ev.bind (lock_no s n b c a r m1 m2 (by omega)) ?_
  refine Ev.bind (a := (s, n, b, c, a, r, 3, 0, 0)) (Ev.is (by simp [item_Free.f, item_locked.f]; omega)) ?_
  refine Ev.bind (lock_on s n b c a r m2 (by omega) (by omega)) ?_
  refine Ev.bind (a := (s, n, b, c, a, r, 5, m2, 0)) (Ev.is (by simp [item_Settle.f, item_locked.f, item_step.f]; omega)) ?_
  refine Ev.bind (a := (s, n, b, c, a, r, 5, m2, 90)) (Ev.is (by simp [item_Free.f, item_locked.f])) ?_
  refine Ev.pos rfl (Ev.pos rfl (Ev.pos rfl (Ev.pos (by simp) (Ev.pos rfl (Ev.pos rfl (Ev.pos rfl (Ev.pos rfl ?_)))))))
  refine Ev.bind (Item.rank_ev _ _ _ _ _ _ _ hr.1 hr.2) (Ev.bind (Item.rank_ev _ _ _ _ _ _ _ hr.1 hr.2) (Ev.some_ ?_))
  have e1 : Item.rank r 5 = 9 := by simp [Item.rank]
  have e2 : Item.rank r 3 = 8 := by simp [Item.rank]
  rw [e1, e2, w64 (i := 8 + 1) (by omega) (by omega)]
  rfl
end Go.Proofs.Ytbmnpjalekailaa.Pure
