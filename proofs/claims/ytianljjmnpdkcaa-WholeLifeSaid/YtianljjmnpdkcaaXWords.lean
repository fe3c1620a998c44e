-- TRIMMED by this session's trim.py
import Derived.Test.YtianljjmnpdkcaaWMore
import Derived.Test.YtianljjmnpdkcaaWGuard
import Derived.Lib.SlBytesConst
/-! Words of this session: what the printed walks lack. -/
namespace Go.Proofs.YtianljjmnpdkcaaW.PrintMore
open Go.RowKit Go.Proofs.YtianljjmnpdkcaaW.PrintWords Go.Proofs.YtianljjmnpdkcaaW.PrintLast
section
variable {P : Program} {ops : Array Oper} {rest : List Oper} {o o2 : Oper} {a : Act} {Q : Exit → Act → World → Prop} {W : World}
end
end Go.Proofs.YtianljjmnpdkcaaW.PrintMore
