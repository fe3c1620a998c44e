/- Written by a program of this session (a turned copy of the printer: wip/turnprint.py): for each Go function a plain one, and the walk that shows that the code comes to just its answers. -/
import Derived.Test.YtdodaepdghlolaaRows
import Derived.Test.YtdodaepdghlolaaRowClockLate
import Derived.Test.YtdodaepdghlolaaHandClockLate
import Derived.WalkKit
import Derived.ProofKit
import Derived.OpenShut
import Derived.ShutString
import Derived.ChangeOld
import Derived.Below
import Derived.SizedLaws
namespace Go.Proofs.Ytdodaepdghlolaa.clockLate
open Go.ChangeShapes Go.WideShapes Go.ChangeAt Go.RowKit Go.Proofs.YtdodaepdghlolaaW.PrintWords Go.Proofs.Ytdodaepdghlolaa.M
open Go.ChangeMaps (open_string shut_string)
set_option linter.unusedVariables false
theorem own : ownKnob Try.prog.godebug = none := by kernel_rfl
theorem laidOut : laidOutB Try.prog = true := by kernel_rfl
set_option maxRecDepth 100000 in
theorem op41 (W : World) : Opens Try.prog W 41 k41 G41 := by
  intro H enc fuel cs dd ps h hw
  obtain ⟨hl, hp⟩ := struct_parts Try.underlying41 h hw
  have hl' : cs.length = 3 := hl.trans (by kernel_rfl)
  obtain ⟨f0, y0, p0, h0, w0⟩ := hp 0 _ rfl
  obtain ⟨x0, k0_, g0⟩ := (opens_int (k := .i64) Try.underlying3) H enc f0 _ y0 p0 h0 w0
  have k0' : ((Kd.int .i64)).K W x0 ((cs.drop 0).take 1) := by have e : Try.prog.cellsOf 3 = 1 := (by kernel_rfl); rw [← e]; exact k0_
  clear k0_ h0 w0
  obtain ⟨f1, y1, p1, h1, w1⟩ := hp 1 _ rfl
  obtain ⟨x1, k1_, g1⟩ := (opens_int (k := .i64) Try.underlying3) H enc f1 _ y1 p1 h1 w1
  have k1' : ((Kd.int .i64)).K W x1 ((cs.drop 1).take 1) := by have e : Try.prog.cellsOf 3 = 1 := (by kernel_rfl); rw [← e]; exact k1_
  clear k1_ h1 w1
  obtain ⟨f2, y2, p2, h2, w2⟩ := hp 2 _ rfl
  obtain ⟨x2, k2_, g2⟩ := (opens_string Try.underlying9) H enc f2 _ y2 p2 h2 w2
  have k2' : (Kd.string).K W x2 ((cs.drop 2).take 1) := by have e : Try.prog.cellsOf 9 = 1 := (by kernel_rfl); rw [← e]; exact k2_
  clear k2_ h2 w2
  have hk := (part_join 0 1 k0' (part_join 1 1 k1' (part_last 2 1 k2' (by omega))))
  rw [List.drop_zero] at hk
  exact ⟨⟨x0, x1, x2⟩, hk, g0, g1, g2⟩
set_option maxRecDepth 100000 in
theorem lifted (os : Os) (started : os.Started) (H : Type) (enc : TypeId × Value → H) :
    ReturnsInHanded {} Try.checked os 7 .any (Rows.clockLateSpec.pre6 enc Try.prog Try.f7 Rows.clockLateRow.domain false) (Rows.clockLateSpec.post enc Try.prog Try.f7 false true false false) := by
  refine returnsInHanded_of_change_sized (C := Try.checked) own started (by kernel_rfl) Try.func7
    (ChangeSpec.witness6 (enc := enc) (C := Try.checked) false ⟨#[], #[.slice none 0 0], []⟩ 8 (by kernel_rfl) (by kernel_rfl) (by kernel_rfl) (by kernel_rfl)) ?_
  intro W base args ds gs before hval0 hW hcnd hsz0 _
  have hsz : (DataW.weightsEach Try.prog (Try.f7.params.toList ++ Rows.clockLateSpec.plain.varTypes Try.prog) (ds ++ gs)).all (· ≤ reachBytes) = true := hsz0
  have hval : ∀ (j : Nat) t v, Try.f7.params[j]? = some t → args[j]? = some v → Value.okWide Try.prog W .any base t v := hval0
  have hW' := hW
  obtain ⟨p, q, hA0, hV, rfl, hfz, hnd⟩ := hW
  have hA : DataW.TrodAll enc Try.prog W 0 (fun _ => true) true Try.f7.params.toList args.toList ds p := hA0
  rw [Try.params7] at hA hval hsz
  obtain ⟨v0, vs0, d0, ds0, p0, q0, hargs, rfl, rfl, h0, r0⟩ := trodAll_cons hA
  obtain ⟨rfl, rfl, rfl⟩ := trodAll_nil r0
  obtain rfl : args = #[v0] := by cases args; simp_all
  obtain ⟨rfl, rfl⟩ := trodVars_none hV
  obtain ⟨a0, len0, cap0, rfl⟩ := okWide_slice Try.underlying36 (hval 0 36 v0 rfl rfl)
  have k0 := h0
  have lt0 : ∀ x ∈ p0, x.block < W.heap.size := by obtain ⟨m, hm⟩ := k0; exact DataW.trod_lt m _ _ _ hm
  obtain ⟨l0, rfl, c0, z0, g0⟩ := opens_arg (G := (fun (x_ : S41) => G41 x_)) Try.underlying36 (by kernel_rfl) (op41 W) hsz (j := 0) rfl rfl h0
  have b0 : Try.prog.bytesOf 41 = 32 := by kernel_rfl
  rw [b0] at g0
  clear hA0 hval0 hsz0 hsz
  refine (Pure.ClockLate_hand a0 cap0 l0 W z0 c0 g0).mono fun e W' ⟨he, bel0⟩ => ?_
  have bel : Below W.heap.size W W' := bel0
  subst he
  exact ⟨_, rfl, _, _, _, [], _, [], hW', trodAll_mk1 (shut_bool Try.underlying4 _), (trodAll_cons_mk (Below.trod laidOut (by kernel_rfl) (of_decide_eq_true (by kernel_rfl)) k0 bel lt0) trodAll_mk0), rfl, bel.frame _, fun h => by cases h⟩
theorem over : Rows.clockLateRow.holds Try.pinned (OpenSpec.ofChange Rows.clockLateSpec) :=
  OpenClaim.holds_of_wide 7 Try.f7 rfl rfl rfl rfl rfl rfl rfl ⟨rfl, rfl, rfl, rfl, rfl⟩ rfl rfl rfl rfl rfl (by kernel_rfl) Try.func7 (by kernel_rfl)
    (of_decide_eq_true (by kernel_rfl)) (by unfold Func.isWrapper; first | (rw [if_pos (by decide +kernel)]; kernel_rfl) | (rw [if_neg (by decide +kernel)]; exact ⟨rfl, rfl⟩))
    (fun os started H enc _ => lifted os started H enc)
theorem proved : Rows.ClockLateSaid := over
#print axioms proved
end Go.Proofs.Ytdodaepdghlolaa.clockLate
