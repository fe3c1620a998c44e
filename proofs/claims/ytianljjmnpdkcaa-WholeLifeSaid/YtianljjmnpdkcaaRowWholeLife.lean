/- Written by a program of this session (a turned copy of the printer: wip/turnprint.py): for each Go function a plain one, and the walk that shows that the code comes to just its answers. -/
import Derived.Test.YtianljjmnpdkcaaMx0
import Derived.Test.YtianljjmnpdkcaaPOpen
namespace Go.Proofs.Ytianljjmnpdkcaa.M
open Go.RowKit Go.Proofs.YtianljjmnpdkcaaW.PrintWords Go.Proofs.YtianljjmnpdkcaaW.PrintLast
set_option linter.unusedVariables false
def G31 (x : S31) : Prop := (Lit.int .i64 x.f0).wf = true ∧ (Lit.int .i64 x.f1).wf = true
def G33 (x : S33) : Prop := G31 x.f0 ∧ (Lit.int .i64 x.f1).wf = true ∧ (Lit.int .i64 x.f2).wf = true ∧ (Lit.int .i64 x.f3).wf = true ∧ (Lit.int .i64 x.f4).wf = true ∧ (Lit.int .i64 x.f5).wf = true ∧ (Lit.int .i64 x.f6).wf = true
def G38 (x : S38) : Prop := (Lit.int .i64 x.f0).wf = true ∧ (Lit.int .i64 x.f1).wf = true ∧ (Lit.int .i64 x.f2).wf = true
end Go.Proofs.Ytianljjmnpdkcaa.M
