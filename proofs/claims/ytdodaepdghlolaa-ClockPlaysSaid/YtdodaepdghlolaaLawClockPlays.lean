/- Written by a program of this session (a turned copy of the printer: wip/turnprint.py): for each Go function a plain one, and the walk that shows that the code comes to just its answers. -/
import Derived.Test.YtdodaepdghlolaaRows
import Derived.Test.YtdodaepdghlolaaRowClockPlays
import Derived.Test.YtdodaepdghlolaaHandClockPlays
import Derived.WalkKit
import Derived.ProofKit
import Derived.OpenShut
import Derived.ShutString
import Derived.ChangeOld
import Derived.Below
import Derived.SizedLaws
namespace Go.Proofs.Ytdodaepdghlolaa.clockPlays
open Go.ChangeShapes Go.WideShapes Go.ChangeAt Go.RowKit Go.Proofs.YtdodaepdghlolaaW.PrintWords Go.Proofs.Ytdodaepdghlolaa.M
open Go.ChangeMaps (open_string shut_string)
set_option linter.unusedVariables false
theorem own : ownKnob Try.prog.godebug = none := by kernel_rfl
theorem laidOut : laidOutB Try.prog = true := by kernel_rfl
set_option maxRecDepth 100000 in
theorem op41 (W : World) : Opens Try.prog W 41 k41 G41 := by
  intro H enc fuel cs dd ps h hw
  obtain ⟨hl, hp⟩ := struct_parts Try.underlying41 h hw
  have hl' : cs.length = 3 := hl.trans (by kernel_rfl)
  obtain ⟨f0, y0, p0, h0, w0⟩ := hp 0 _ rfl
  obtain ⟨x0, k0_, g0⟩ := (opens_int (k := .i64) Try.underlying3) H enc f0 _ y0 p0 h0 w0
  have k0' : ((Kd.int .i64)).K W x0 ((cs.drop 0).take 1) := by have e : Try.prog.cellsOf 3 = 1 := (by kernel_rfl); rw [← e]; exact k0_
  clear k0_ h0 w0
  obtain ⟨f1, y1, p1, h1, w1⟩ := hp 1 _ rfl
  obtain ⟨x1, k1_, g1⟩ := (opens_int (k := .i64) Try.underlying3) H enc f1 _ y1 p1 h1 w1
  have k1' : ((Kd.int .i64)).K W x1 ((cs.drop 1).take 1) := by have e : Try.prog.cellsOf 3 = 1 := (by kernel_rfl); rw [← e]; exact k1_
  clear k1_ h1 w1
  obtain ⟨f2, y2, p2, h2, w2⟩ := hp 2 _ rfl
  obtain ⟨x2, k2_, g2⟩ := (opens_string Try.underlying9) H enc f2 _ y2 p2 h2 w2
  have k2' : (Kd.string).K W x2 ((cs.drop 2).take 1) := by have e : Try.prog.cellsOf 9 = 1 := (by kernel_rfl); rw [← e]; exact k2_
  clear k2_ h2 w2
  have hk := (part_join 0 1 k0' (part_join 1 1 k1' (part_last 2 1 k2' (by omega))))
  rw [List.drop_zero] at hk
  exact ⟨⟨x0, x1, x2⟩, hk, g0, g1, g2⟩
set_option maxRecDepth 100000 in
theorem lifted (os : Os) (started : os.Started) (H : Type) (enc : TypeId × Value → H) :
    ReturnsInHanded {} Try.checked os 6 .any (Rows.clockPlaysSpec.pre6 enc Try.prog Try.f6 Rows.clockPlaysRow.domain false) (Rows.clockPlaysSpec.post enc Try.prog Try.f6 false true false false) := by
  refine returnsInHanded_of_change_sized (C := Try.checked) own started (by kernel_rfl) Try.func6
    (ChangeSpec.witness6 (enc := enc) (C := Try.checked) false ⟨#[], #[.slice none 0 0, .string ByteArray.empty], []⟩ 8 (by kernel_rfl) (by kernel_rfl) (by kernel_rfl) (by kernel_rfl)) ?_
  intro W base args ds gs before hval0 hW hcnd hsz0 _
  have hsz : (DataW.weightsEach Try.prog (Try.f6.params.toList ++ Rows.clockPlaysSpec.plain.varTypes Try.prog) (ds ++ gs)).all (· ≤ reachBytes) = true := hsz0
  have hval : ∀ (j : Nat) t v, Try.f6.params[j]? = some t → args[j]? = some v → Value.okWide Try.prog W .any base t v := hval0
  have hW' := hW
  obtain ⟨p, q, hA0, hV, rfl, hfz, hnd⟩ := hW
  have hA : DataW.TrodAll enc Try.prog W 0 (fun _ => true) true Try.f6.params.toList args.toList ds p := hA0
  rw [Try.params6] at hA hval hsz
  obtain ⟨v0, vs0, d0, ds0, p0, q0, hargs, rfl, rfl, h0, r0⟩ := trodAll_cons hA
  obtain ⟨v1, vs1, d1, ds1, p1, q1, rfl, rfl, rfl, h1, r1⟩ := trodAll_cons r0
  obtain ⟨rfl, rfl, rfl⟩ := trodAll_nil r1
  obtain rfl : args = #[v0, v1] := by cases args; simp_all
  obtain ⟨rfl, rfl⟩ := trodVars_none hV
  obtain ⟨a0, len0, cap0, rfl⟩ := okWide_slice Try.underlying36 (hval 0 36 v0 rfl rfl)
  have k0 := h0
  have lt0 : ∀ x ∈ p0, x.block < W.heap.size := by obtain ⟨m, hm⟩ := k0; exact DataW.trod_lt m _ _ _ hm
  obtain ⟨l0, rfl, c0, z0, g0⟩ := opens_arg (G := (fun (x_ : S41) => G41 x_)) Try.underlying36 (by kernel_rfl) (op41 W) hsz (j := 0) rfl rfl h0
  have b0 : Try.prog.bytesOf 41 = 32 := by kernel_rfl
  rw [b0] at g0
  obtain ⟨a1, rfl, rfl, rfl, y1⟩ := open_string Try.underlying9 (hval 1 9 v1 rfl rfl) h1
  have g1 : a1.size ≤ 140737488351232 := by
    have z := sized_string hsz (j := 1) (t := 9) rfl rfl
    rw [Array.length_toList] at z
    exact z
  clear hA0 hval0 hsz0 hsz
  refine (Pure.ClockPlays_hand a0 cap0 l0 a1 W z0 c0 g0 g1).mono fun e W' ⟨he, bel0⟩ => ?_
  have bel : Below W.heap.size W W' := bel0
  subst he
  exact ⟨_, rfl, _, _, _, [], _, [], hW', trodAll_mk1 (shut_bool Try.underlying4 _), (trodAll_cons_mk (Below.trod laidOut (by kernel_rfl) (of_decide_eq_true (by kernel_rfl)) k0 bel lt0) (trodAll_cons_mk (shut_string Try.underlying9 y1) trodAll_mk0)), rfl, bel.frame _, fun h => by cases h⟩
theorem over : Rows.clockPlaysRow.holds Try.pinned (OpenSpec.ofChange Rows.clockPlaysSpec) :=
  OpenClaim.holds_of_wide 6 Try.f6 rfl rfl rfl rfl rfl rfl rfl ⟨rfl, rfl, rfl, rfl, rfl⟩ rfl rfl rfl rfl rfl (by kernel_rfl) Try.func6 (by kernel_rfl)
    (of_decide_eq_true (by kernel_rfl)) (by unfold Func.isWrapper; first | (rw [if_pos (by decide +kernel)]; kernel_rfl) | (rw [if_neg (by decide +kernel)]; exact ⟨rfl, rfl⟩))
    (fun os started H enc _ => lifted os started H enc)
theorem proved : Rows.ClockPlaysSaid := over
#print axioms proved
end Go.Proofs.Ytdodaepdghlolaa.clockPlays
