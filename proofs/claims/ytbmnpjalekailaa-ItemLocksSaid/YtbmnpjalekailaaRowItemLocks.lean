/- Written by a program of this session (a turned copy of the printer: wip/turnprint.py): for each Go function a plain one, and the walk that shows that the code comes to just its answers. -/
import Derived.Test.YtbmnpjalekailaaMx10
import Derived.Test.YtbmnpjalekailaaPOpen
namespace Go.Proofs.Ytbmnpjalekailaa.M
open Go.RowKit Go.Proofs.YtbmnpjalekailaaW.PrintWords Go.Proofs.YtbmnpjalekailaaW.PrintLast
set_option linter.unusedVariables false
def G23 (x : S23) : Prop := (Lit.int .i64 x.f0).wf = true ∧ (Lit.int .i64 x.f1).wf = true
def G25 (x : S25) : Prop := G23 x.f0 ∧ (Lit.int .i64 x.f1).wf = true ∧ (Lit.int .i64 x.f2).wf = true ∧ (Lit.int .i64 x.f3).wf = true ∧ (Lit.int .i64 x.f4).wf = true ∧ (Lit.int .i64 x.f5).wf = true ∧ (Lit.int .i64 x.f6).wf = true
/-- THE ONE PURE STATEMENT of contralaw09_ItemLocks. -/
def contralaw09_ItemLocks.Pure : Prop := ∀ (a0 : S25) (a1 : Int) (a2 : Int), G25 a0 → (Lit.int .i64 a1).wf = true → (Lit.int .i64 a2).wf = true → ∃ k, contralaw09_ItemLocks.f k a0.f0.f0 a0.f0.f1 a0.f1 a0.f2 a0.f3 a0.f4 a0.f5 a0.f6 a1 a2 = some true
end Go.Proofs.Ytbmnpjalekailaa.M
