/- Written by a program of this session (a turned copy of the printer: wip/turnprint.py): for each Go function a plain one, and the walk that shows that the code comes to just its answers. -/
import Derived.Test.YtgmfafmefafiiaaMx0
import Derived.Test.YtgmfafmefafiiaaPOpen
namespace Go.Proofs.Ytgmfafmefafiiaa.M
open Go.RowKit Go.Proofs.YtgmfafmefafiiaaW.PrintWords Go.Proofs.YtgmfafmefafiiaaW.PrintLast
set_option linter.unusedVariables false
def G24 (x : S24) : Prop := (Lit.int .i64 x.f0).wf = true ∧ (Lit.int .i64 x.f1).wf = true
def G50 (x : S50) : Prop := G24 x.f0 ∧ (Lit.int .i64 x.f1).wf = true ∧ (Lit.int .i64 x.f2).wf = true
def G28 (x : S28) : Prop := (Lit.int .i64 x.f0).wf = true ∧ G24 x.f1 ∧ (Lit.int .i64 x.f2).wf = true ∧ (Lit.int .i64 x.f3).wf = true ∧ (Lit.int .i64 x.f4).wf = true ∧ (Lit.int .i64 x.f5).wf = true ∧ (Lit.int .i64 x.f6).wf = true ∧ True ∧ (x.f8.length * 32 ≤ 140737488351232 ∧ ∀ y0_ ∈ x.f8, G50 y0_) ∧ (x.f9.length * 8 ≤ 140737488351232 ∧ ∀ y0_ ∈ x.f9, (Lit.int .i64 y0_).wf = true)
end Go.Proofs.Ytgmfafmefafiiaa.M
