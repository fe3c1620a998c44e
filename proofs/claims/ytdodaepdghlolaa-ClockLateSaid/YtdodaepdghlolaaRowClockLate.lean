/- Written by a program of this session (a turned copy of the printer: wip/turnprint.py): for each Go function a plain one, and the walk that shows that the code comes to just its answers. -/
import Derived.Test.YtdodaepdghlolaaMx0
import Derived.Test.YtdodaepdghlolaaPOpen
namespace Go.Proofs.Ytdodaepdghlolaa.M
open Go.RowKit Go.Proofs.YtdodaepdghlolaaW.PrintWords Go.Proofs.YtdodaepdghlolaaW.PrintLast
set_option linter.unusedVariables false
def G41 (x : S41) : Prop := (Lit.int .i64 x.f0).wf = true ∧ (Lit.int .i64 x.f1).wf = true ∧ x.f2.size ≤ 140737488351232
end Go.Proofs.Ytdodaepdghlolaa.M
