/-
  The small head's message (says), plainly: its bytes, and that they are it.
-/
import Derived.Test.YtgmfafmefafiiaaOMsgRead
import Derived.Test.YtgmfafmefafiiaaOWrite
import Derived.Test.YtgmfafmefafiiaaPStr
namespace Go.Proofs.Ytgmfafmefafiiaa.Pure.Msg
open Go.RowKit Go.Proofs.Ytgmfafmefafiiaa.M Go.Proofs.YtgmfafmefafiiaaW.PrintWords Go.Proofs.YtgmfafmefafiiaaW.PrintLast Go.Proofs.YtgmfafmefafiiaaW.PrintMore Go.Proofs.Ytgmfafmefafiiaa.Pure.Code
set_option linter.unusedVariables false
/-- what was written and stands alone is read as it was -/
theorem read_body {m : S28} (hc : wcode m = 0) (hw : Wide m) : readF (body m) = (m, 0) := by
  have h := from_body (l := body m) (s := []) (p := 0) hc hw (by simp)
  unfold readF
  rw [h]
  simp
theorem enc_small {n : Int} (h : 0 ≤ n ∧ n ≤ 63) : enc n = [2 * n] := by
  obtain ⟨m, rfl⟩ := Int.eq_ofNat_of_zero_le h.1
  have hz : Bits.zig (m : Int) = 2 * m := by unfold Bits.zig; split <;> omega
  unfold enc
  rw [hz, numB_small (by omega)]
  simp
def m0 : S28 := ⟨13, ⟨0, 0⟩, 0, 0, 0, 3, 0, true, [], []⟩
theorem m0_code : wcode m0 = 0 := by decide +kernel
theorem m0_wide : Wide m0 := by
  refine ⟨fun x hx => ?_, ⟨by decide, by decide⟩, by simp [m0], by simp [m0]⟩
  simp [head, m0] at hx
  unfold I64
  omega
theorem m0_body : body m0 = [26, 0, 0, 0, 0, 0, 6, 0, 1, 0, 0] := by
  simp [body, head, m0, menc, linesE, b01, enc_small]
end Go.Proofs.Ytgmfafmefafiiaa.Pure.Msg
