/- Written by a program of this session (a turned copy of the printer: wip/turnprint.py): for each Go function a plain one, and the walk that shows that the code comes to just its answers. -/
import Derived.Test.YthgdojaildccaaaMx0
import Derived.Test.YthgdojaildccaaaPOpen
namespace Go.Proofs.Ythgdojaildccaaa.M
open Go.RowKit Go.Proofs.YthgdojaildccaaaW.PrintWords Go.Proofs.YthgdojaildccaaaW.PrintLast
set_option linter.unusedVariables false
def G31 (x : S31) : Prop := (Lit.int .i64 x.f0).wf = true ∧ (Lit.int .i64 x.f1).wf = true
def G47 (x : S47) : Prop := G31 x.f0 ∧ (Lit.int .i64 x.f1).wf = true ∧ (Lit.int .i64 x.f2).wf = true
def G35 (x : S35) : Prop := (Lit.int .i64 x.f0).wf = true ∧ G31 x.f1 ∧ (Lit.int .i64 x.f2).wf = true ∧ (Lit.int .i64 x.f3).wf = true ∧ (Lit.int .i64 x.f4).wf = true ∧ (Lit.int .i64 x.f5).wf = true ∧ (Lit.int .i64 x.f6).wf = true ∧ True ∧ (x.f8.length * 32 ≤ 140737488351232 ∧ ∀ y0_ ∈ x.f8, G47 y0_) ∧ (x.f9.length * 8 ≤ 140737488351232 ∧ ∀ y0_ ∈ x.f9, (Lit.int .i64 y0_).wf = true)
end Go.Proofs.Ythgdojaildccaaa.M
