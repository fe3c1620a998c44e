/-
  Vectors: Add in one contract, Of, List.
-/
import Derived.Test.YtianljjmnpdkcaaOVec4
namespace Go.Proofs.Ytianljjmnpdkcaa.M
open Go.RowKit Go.Proofs.YtianljjmnpdkcaaW.PrintWords Go.Proofs.YtianljjmnpdkcaaW.PrintLast Go.Proofs.YtianljjmnpdkcaaW.PrintMore
set_option linter.unusedVariables false
set_option linter.unusedSimpArgs false
/-- what an entity has of a currency -/
def ofP (l : List S63) (t : S63) : Int := if thereP l t = true then amtP l t else 0
/-- positions with more -/
def vadd (l : List S63) (t : S63) : List S63 :=
  if thereP l t = true then (if amtP l t + t.f2 = 0 then l.eraseIdx (atP l t) else l.set (atP l t) ⟨t.f0, t.f1, amtP l t + t.f2⟩) else if t.f2 = 0 then l else l ++ [t]
theorem vec_add {A : Option Addr} {c : Nat} {l : List S63} {e cu am : Int} {w : World} (hC : Kd.C k63 w A l.length l) (hv : VOk l) (ht : KB ⟨e, cu, am⟩) (hend : thereP l ⟨e, cu, am⟩ = false → atP l ⟨e, cu, am⟩ = l.length) (hi1 : In64 (ofP l ⟨e, cu, am⟩)) (hi2 : In64 am) (hf : In64 (ofP l ⟨e, cu, am⟩ + am)) :
    Calls Try.prog 18 #[.agg #[.slice A l.length c], .int .i64 e, .int .i64 cu, .int .i64 am] w fun x w' => ∃ v, x = .returned (.tuple #[.agg #[v], .int .i64 0]) ∧ Kd.R k63 63 w' w.heap.size (fun _ => True) v (vadd l ⟨e, cu, am⟩) ∧ Below w.heap.size w w' := by
  unfold ofP at hi1 hf
  unfold vadd
  by_cases hth : thereP l ⟨e, cu, am⟩ = true
  · rw [if_pos hth] at hi1 hf
    rw [if_pos hth]
    by_cases hs : amtP l ⟨e, cu, am⟩ + am = 0
    · rw [if_pos hs]; exact add_del hC hv ht hth hi1 hi2 rfl hs
    · rw [if_neg hs]; exact add_set hC hv ht hth hi1 hi2 rfl hf hs
  · have hth' : thereP l ⟨e, cu, am⟩ = false := by simpa using hth
    rw [if_neg hth]
    by_cases h0 : am = 0
    · rw [if_pos h0]; exact add_zero hC hv ht hth' h0
    · rw [if_neg h0]; exact add_new hC hv ht hth' h0 (hend hth')
theorem vec_err {A : Option Addr} {c : Nat} {l : List S63} {e cu am : Int} {w : World} (hC : Kd.C k63 w A l.length l) (hv : VOk l) (ht : KB ⟨e, cu, am⟩) (hi1 : In64 (ofP l ⟨e, cu, am⟩)) (hi2 : In64 am) (hf : ¬ In64 (ofP l ⟨e, cu, am⟩ + am)) :
    Calls Try.prog 18 #[.agg #[.slice A l.length c], .int .i64 e, .int .i64 cu, .int .i64 am] w fun x w' => x = .returned (.tuple #[.agg #[.slice A l.length c], .int .i64 10]) ∧ Below w.heap.size w w' := by
  unfold ofP at hi1 hf
  by_cases hth : thereP l ⟨e, cu, am⟩ = true
  · rw [if_pos hth] at hi1 hf
    exact add_err hC hv ht hth hi1 hi2 rfl hf
  · rw [if_neg hth, Int.zero_add] at hf
    exact absurd hi2 hf
end Go.Proofs.Ytianljjmnpdkcaa.M
