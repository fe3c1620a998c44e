/-
  NetTwice, walked by hand: a packet that is there twice comes twice, the same; lost once it comes once.
-/
import Derived.Test.YthgdojaildccaaaHNetTwice2
namespace Go.Proofs.Ythgdojaildccaaa.Pure
open Go.RowKit Go.Proofs.Ythgdojaildccaaa.M Go.Proofs.YthgdojaildccaaaW.PrintWords Go.Proofs.YthgdojaildccaaaW.PrintLast Go.Proofs.YthgdojaildccaaaW.PrintMore
set_option linter.unusedVariables false
set_option linter.unusedSimpArgs false
theorem NetTwice_hand (A0 : Option Addr) (c0 : Nat) (l0 : List S37) (a1 : Int) (lose : Bool) (w : World) (hr : Kd.C k37 w A0 l0.length l0) (hc : l0.length ≤ c0) (g0 : l0.length * 152 ≤ 140737488351232 ∧ ∀ x ∈ l0, G37 x) (g1 : (Lit.int .i64 a1).wf = true) :
    Calls Try.prog 7 #[.slice A0 l0.length c0, .int .i64 a1, .bool lose] w fun e w' => e = .returned (.bool true) ∧ Below w.heap.size w w' := by
  cases lose
  · exact NetTwice_false A0 c0 l0 a1 w hr hc g0 g1
  · exact NetTwice_true A0 c0 l0 a1 w hr hc g0 g1
end Go.Proofs.Ythgdojaildccaaa.Pure
