/- Written by a program of this session (a turned copy of the printer: wip/turnprint.py): for each Go function a plain one, and the walk that shows that the code comes to just its answers. -/
import Derived.Test.YtgmfafmefafiiaaMx0
import Derived.Test.YtgmfafmefafiiaaPOpen
namespace Go.Proofs.Ytgmfafmefafiiaa.M
open Go.RowKit Go.Proofs.YtgmfafmefafiiaaW.PrintWords Go.Proofs.YtgmfafmefafiiaaW.PrintLast
set_option linter.unusedVariables false
end Go.Proofs.Ytgmfafmefafiiaa.M
