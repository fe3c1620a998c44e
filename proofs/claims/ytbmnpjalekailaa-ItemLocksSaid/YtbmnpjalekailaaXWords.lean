-- TRIMMED by this session's trim.py
import Derived.Test.YtbmnpjalekailaaWMore
import Derived.Lib.SlBytesConst
/-! Words of this session: what the printed walks lack. -/
namespace Go.Proofs.YtbmnpjalekailaaW.PrintMore
open Go.RowKit Go.Proofs.YtbmnpjalekailaaW.PrintWords Go.Proofs.YtbmnpjalekailaaW.PrintLast
section
variable {P : Program} {ops : Array Oper} {rest : List Oper} {o o2 : Oper} {a : Act} {Q : Exit → Act → World → Prop} {W : World}
end
end Go.Proofs.YtbmnpjalekailaaW.PrintMore
