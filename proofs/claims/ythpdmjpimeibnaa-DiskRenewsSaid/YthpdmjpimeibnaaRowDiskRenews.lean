/- Written by a program of this session (a turned copy of the printer: wip/turnprint.py): for each Go function a plain one, and the walk that shows that the code comes to just its answers. -/
import Derived.Test.YthpdmjpimeibnaaMx0
import Derived.Test.YthpdmjpimeibnaaPOpen
namespace Go.Proofs.Ythpdmjpimeibnaa.M
open Go.RowKit Go.Proofs.YthpdmjpimeibnaaW.PrintWords Go.Proofs.YthpdmjpimeibnaaW.PrintLast
set_option linter.unusedVariables false
def G23 (x : S23) : Prop := (x.f0.length * 1 ≤ 140737488351232 ∧ ∀ y0_ ∈ x.f0, (Lit.int .u8 y0_).wf = true) ∧ (x.f1.length * 1 ≤ 140737488351232 ∧ ∀ y0_ ∈ x.f1, (Lit.int .u8 y0_).wf = true)
end Go.Proofs.Ythpdmjpimeibnaa.M
