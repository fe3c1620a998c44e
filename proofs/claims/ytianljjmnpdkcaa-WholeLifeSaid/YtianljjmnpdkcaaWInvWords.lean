-- TRIMMED by this session's trim.py
-- PRINTED BY print.sh 35421559b90ae4d0a3588c463048766b98c2df88dd9212a6774a882060cdf62d: not written by this session
import Derived.Test.YtianljjmnpdkcaaWInv
import Derived.Test.YtianljjmnpdkcaaWFootNe
namespace Go.Proofs.YtianljjmnpdkcaaW.PrintWords
open Go.RowKit
end Go.Proofs.YtianljjmnpdkcaaW.PrintWords
namespace Go.Proofs.YtianljjmnpdkcaaW.PrintLast
section
variable {ops : Array Oper} {a : Act} {o og : Oper} {g : Nat} {t : Tmp} {u : Bool}
end
end Go.Proofs.YtianljjmnpdkcaaW.PrintLast
