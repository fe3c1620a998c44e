/-
  The fixed life of an item, computed; a new item, plainly.
-/
import Derived.Test.YtbmnpjalekailaaMx3
import Derived.Test.YtbmnpjalekailaaPItem
namespace Go.Proofs.Ytbmnpjalekailaa.Pure
open Go.RowKit Go.Proofs.Ytbmnpjalekailaa.M Go.Proofs.YtbmnpjalekailaaW.PrintWords Go.Proofs.YtbmnpjalekailaaW.PrintLast Go.Proofs.YtbmnpjalekailaaW.PrintMore
namespace Item
theorem lives_ev : Ev (fun k => contralaw09_lives.f k) true := Ev.of contralaw09_lives.mono (k := 12) (by decide +kernel)
end Item
end Go.Proofs.Ytbmnpjalekailaa.Pure
