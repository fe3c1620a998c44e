/-
  An item that is disputed and adjusted is so three times at most; then it may be cancelled, or taken at last.
-/
import Derived.Test.YtbmnpjalekailaaMx7
import Derived.Test.YtbmnpjalekailaaPLives
namespace Go.Proofs.Ytbmnpjalekailaa.Pure
open Go.RowKit Go.Proofs.Ytbmnpjalekailaa.M Go.Proofs.YtbmnpjalekailaaW.PrintWords Go.Proofs.YtbmnpjalekailaaW.PrintLast Go.Proofs.YtbmnpjalekailaaW.PrintMore
theorem Ev.is {α : Type} {x : Option α} {r : α} (h : x = some r) : Ev (fun _ => x) r := Ev.congr (fun _ => h) (Ev.now r)
theorem adjust_ev (a r m : Int) : Ev (fun k => item_Adjust.f k 0 1 1 0 a r 2 0 m) (if 1 ≤ m ∧ m ≤ 1125899906842624 then (if r = 3 then (0, 1, 1, 0, a, r, 2, 0, 91) else (0, 1, 1, 0, m, wrap64 (r + 1), 1, 0, 0)) else (0, 1, 1, 0, a, r, 2, 0, 1)) := by
  refine Ev.of (item_Adjust.mono 0 1 1 0 a r 2 0 m) (k := 2) ?_
  simp only [item_Adjust.f, item_Adjust.j0, decide_eq_true_eq, if_true]
  grind
theorem j2_end {x5 x11 n i a r : Int} {l : List Int} {f : Bool} (hf : f = false) (h : x11 ≠ 0) : Ev (fun k => contralaw09_ItemRounds.j2 k x5 x11 l n i f 0 1 1 0 a r 2 0 0 1 1 0 a r 2 0) true := by
  refine Ev.up ?_
  simp only [contralaw09_ItemRounds.j2]
  refine Ev.neg (by simp [hf]) (Ev.neg h (Ev.is ?_))
  simp [item_Cancel.f, item_step.f, item_Over.f]
theorem rounds_loop (l : List Int) : ∀ d i : Nat, i + d = l.length → i ≤ 3 → ∀ a : Int,
    Ev (fun k => contralaw09_ItemRounds.l0 k i l l.length i 0 1 1 0 a i 1 0) true := by
  intro d
  induction d with
  | zero =>
    intro i hi h3 a
    refine Ev.up (Ev.neg (by omega) ?_)
    refine Ev.is ?_
    simp [item_Agree.f, item_step.f, item_Over.f]
  | succ d ih =>
    intro i hi h3 a
    refine Ev.up (Ev.pos (by omega) (Ev.pos (by omega) (Ev.pos (by omega) ?_)))
    refine Ev.bind (a := (0, 1, 1, 0, a, (i : Int), 2, 0, 0)) (Ev.is (by simp [item_Dispute.f, item_step.f])) (Ev.pos rfl ?_)
    refine Ev.bind (adjust_ev a i (rd l i)) ?_
    by_cases g1 : 1 ≤ rd l i
    · refine Ev.pos g1 (Ev.up ?_)
      by_cases g2 : rd l i ≤ 1125899906842624
      · rw [if_pos ⟨g1, g2⟩]
        refine Ev.pos (decide_eq_true g2) ?_
        by_cases g3 : (i : Int) = 3
        · rw [if_pos g3]
          refine Ev.neg (by simp [g3]) (Ev.neg (by simp) ?_)
          exact j2_end (by simp) (by simp)
        · rw [if_neg g3]
          have e1 : wrap64 ((i : Int) + 1) = ((i + 1 : Nat) : Int) := by rw [w64 (by omega) (by omega)]; omega
          refine Ev.neg (by simp; omega) (Ev.pos rfl (Ev.up ?_))
          simp only [contralaw09_ItemRounds.j2]
          refine Ev.neg (by simp) (Ev.pos trivial ?_)
          rw [e1]
          exact ih (i + 1) (by omega) (by omega) _
      · rw [if_neg (fun x => g2 x.2)]
        refine Ev.neg (by simpa using g2) (Ev.pos rfl ?_)
        exact j2_end rfl (by simp)
    · rw [if_neg (fun x => g1 x.1)]
      refine Ev.neg g1 (Ev.up ?_)
      simp only [contralaw09_ItemRounds.j1]
      refine Ev.neg (by simp) (Ev.pos trivial ?_)
      exact j2_end rfl (by simp)
theorem ItemRounds : contralaw09_ItemRounds.Pure := by
  intro l _ s0 b0
  refine Ev.rounds ?_
  unfold contralaw09_ItemRounds.f
  refine Ev.bind Item.lives_ev (Ev.pos rfl ?_)
  by_cases h1 : (l.length : Int) > 20
  · exact Ev.pos h1 (Ev.now _)
  · refine Ev.neg h1 ?_
    refine Ev.bind (a := (0, 1, 1, 0, 5, 0, 1, 0, 0)) (Ev.of (item_New.mono 0 1 1 0 5) (k := 12) (by kernel_rfl)) ?_
    exact rounds_loop l l.length 0 (by omega) (by omega) 5
end Go.Proofs.Ytbmnpjalekailaa.Pure
