/- Written by a program of this session (a turned copy of the printer: wip/turnprint.py): for each Go function a plain one, and the walk that shows that the code comes to just its answers. -/
import Derived.Test.YtipkgplkeebhkaaMx8
import Derived.Test.YtipkgplkeebhkaaPOpen
namespace Go.Proofs.Ytipkgplkeebhkaa.M
open Go.RowKit Go.Proofs.YtipkgplkeebhkaaW.PrintWords Go.Proofs.YtipkgplkeebhkaaW.PrintLast
set_option linter.unusedVariables false
/-- THE ONE PURE STATEMENT of contralaw05_FrameTorn. -/
def contralaw05_FrameTorn.Pure : Prop := ∀ (l0 : List (List Int)) (a1 : Int) (a2 : Int), (l0.length * 24 ≤ 140737488351232 ∧ ∀ y0_ ∈ l0, (y0_.length * 1 ≤ 140737488351232 ∧ ∀ y1_ ∈ y0_, (Lit.int .u8 y1_).wf = true)) → (Lit.int .i64 a1).wf = true → (Lit.int .u8 a2).wf = true → ∃ k, contralaw05_FrameTorn.f k l0 a1 a2 = some true
end Go.Proofs.Ytipkgplkeebhkaa.M
