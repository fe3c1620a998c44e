/- Written by a program of this session (a turned copy of the printer: wip/turnprint.py): for each Go function a plain one, and the walk that shows that the code comes to just its answers. -/
import Derived.Test.YthpdmjpimeibnaaMx0
import Derived.Test.YthpdmjpimeibnaaPOpen
namespace Go.Proofs.Ythpdmjpimeibnaa.M
open Go.RowKit Go.Proofs.YthpdmjpimeibnaaW.PrintWords Go.Proofs.YthpdmjpimeibnaaW.PrintLast
set_option linter.unusedVariables false
def G38 (x : S38) : Prop := (Lit.int .i64 x.f0).wf = true ∧ (Lit.int .i64 x.f1).wf = true ∧ (x.f2.length * 1 ≤ 140737488351232 ∧ ∀ y0_ ∈ x.f2, (Lit.int .u8 y0_).wf = true) ∧ (Lit.int .u8 x.f3).wf = true
end Go.Proofs.Ythpdmjpimeibnaa.M
