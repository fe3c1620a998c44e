/- Written by a program of this session (a turned copy of the printer: wip/turnprint.py): for each Go function a plain one, and the walk that shows that the code comes to just its answers. -/
import Derived.Test.YtpbchkgahjafeaaMx0
import Derived.Test.YtpbchkgahjafeaaPOpen
namespace Go.Proofs.Ytpbchkgahjafeaa.M
open Go.RowKit Go.Proofs.YtpbchkgahjafeaaW.PrintWords Go.Proofs.YtpbchkgahjafeaaW.PrintLast
set_option linter.unusedVariables false
def G42 (x : S42) : Prop := (Lit.int .i64 x.f0).wf = true ∧ (Lit.int .i64 x.f1).wf = true ∧ (Lit.int .i64 x.f2).wf = true
end Go.Proofs.Ytpbchkgahjafeaa.M
