/-
  A vector of one entity and one currency.
-/
import Derived.Test.YtianljjmnpdkcaaOVec5
namespace Go.Proofs.Ytianljjmnpdkcaa.M
open Go.RowKit
set_option linter.unusedVariables false
set_option linter.unusedSimpArgs false
/-- what an entity has of a currency, as positions -/
def one (e c s : Int) : List S63 := if s = 0 then [] else [⟨e, c, s⟩]
theorem one_zero (e c : Int) : one e c 0 = [] := if_pos rfl
theorem one_at (e c s a : Int) : atP (one e c s) ⟨e, c, a⟩ = 0 := by
  unfold one
  split
  · rfl
  · simp [atP, cmpP]
theorem one_there (e c s a : Int) : thereP (one e c s) ⟨e, c, a⟩ = decide (s ≠ 0) := by
  unfold thereP
  rw [one_at]
  unfold one
  by_cases h : s = 0
  · simp [h]
  · simp [h, cmpP]
theorem one_end (e c s a : Int) (h : thereP (one e c s) ⟨e, c, a⟩ = false) : atP (one e c s) ⟨e, c, a⟩ = (one e c s).length := by
  rw [one_there] at h
  rw [one_at]
  unfold one
  rw [if_pos (by simpa using h)]
  rfl
theorem one_of (e c s a : Int) : ofP (one e c s) ⟨e, c, a⟩ = s := by
  unfold ofP
  rw [one_there]
  by_cases h : s = 0
  · simp [h]
  · simp [h, amtP, one_at]
    simp [one, h]
theorem one_add (e c s a : Int) : vadd (one e c s) ⟨e, c, a⟩ = one e c (s + a) := by
  unfold vadd
  rw [one_there, one_at]
  by_cases h : s = 0
  · subst h
    simp [one]
  · have ha : amtP (one e c s) ⟨e, c, a⟩ = s := by simp [amtP, one_at]; simp [one, h]
    rw [ha]
    simp [h]
    by_cases h2 : s + a = 0
    · simp [h2, one, h]
    · simp [h2, one, h]
theorem one_ok {e c s : Int} (h : KB ⟨e, c, 0⟩) : VOk (one e c s) := by
  unfold one
  split
  · exact ⟨by simp, by simp, List.Pairwise.nil⟩
  · exact ⟨by simp, by intro p hp; rw [List.mem_singleton.1 hp]; exact h, List.pairwise_singleton _ _⟩
end Go.Proofs.Ytianljjmnpdkcaa.M
