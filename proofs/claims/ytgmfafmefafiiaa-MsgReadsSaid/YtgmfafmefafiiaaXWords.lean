-- TRIMMED by this session's trim.py
import Derived.Test.YtgmfafmefafiiaaWMore
import Derived.Test.YtgmfafmefafiiaaWGuard
import Derived.Lib.SlBytesConst
/-! Words of this session: what the printed walks lack. -/
namespace Go.Proofs.YtgmfafmefafiiaaW.PrintMore
open Go.RowKit Go.Proofs.YtgmfafmefafiiaaW.PrintWords Go.Proofs.YtgmfafmefafiiaaW.PrintLast
section
variable {P : Program} {ops : Array Oper} {rest : List Oper} {o o2 : Oper} {a : Act} {Q : Exit → Act → World → Prop} {W : World}
end
end Go.Proofs.YtgmfafmefafiiaaW.PrintMore
