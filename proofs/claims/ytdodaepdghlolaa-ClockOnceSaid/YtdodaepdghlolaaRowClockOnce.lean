/- Written by a program of this session (a turned copy of the printer: wip/turnprint.py): for each Go function a plain one, and the walk that shows that the code comes to just its answers. -/
import Derived.Test.YtdodaepdghlolaaMx0
import Derived.Test.YtdodaepdghlolaaPOpen
namespace Go.Proofs.Ytdodaepdghlolaa.M
open Go.RowKit Go.Proofs.YtdodaepdghlolaaW.PrintWords Go.Proofs.YtdodaepdghlolaaW.PrintLast
set_option linter.unusedVariables false
end Go.Proofs.Ytdodaepdghlolaa.M
