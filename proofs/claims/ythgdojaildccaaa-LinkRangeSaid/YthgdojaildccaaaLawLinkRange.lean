/- Written by a program of this session (a turned copy of the printer: wip/turnprint.py): for each Go function a plain one, and the walk that shows that the code comes to just its answers. -/
import Derived.Test.YthgdojaildccaaaRows
import Derived.Test.YthgdojaildccaaaRowLinkRange
import Derived.Test.YthgdojaildccaaaHandLinkRange
import Derived.WalkKit
import Derived.ProofKit
import Derived.OpenShut
import Derived.ShutString
import Derived.ChangeOld
import Derived.Below
import Derived.SizedLaws
namespace Go.Proofs.Ythgdojaildccaaa.linkRange
open Go.ChangeShapes Go.WideShapes Go.ChangeAt Go.RowKit Go.Proofs.YthgdojaildccaaaW.PrintWords Go.Proofs.Ythgdojaildccaaa.M
open Go.ChangeMaps (open_string shut_string)
set_option linter.unusedVariables false
theorem own : ownKnob Try.prog.godebug = none := by kernel_rfl
theorem laidOut : laidOutB Try.prog = true := by kernel_rfl
set_option maxRecDepth 100000 in
theorem op71 (W : World) : Opens Try.prog W 71 k71 G71 := by
  intro H enc fuel cs dd ps h hw
  obtain ⟨hl, hp⟩ := arr_parts Try.underlying71 h hw
  have hl' : cs.length = 2 := hl.trans (by kernel_rfl)
  obtain ⟨f0, y0, p0, h0, w0⟩ := hp 0 (by decide)
  obtain ⟨x0, k0_, g0⟩ := (opens_int (k := .i64) Try.underlying3) H enc f0 _ y0 p0 h0 w0
  have k0' : ((Kd.int .i64)).K W x0 ((cs.drop 0).take 1) := by have e : Try.prog.cellsOf 3 = 1 := (by kernel_rfl); rw [e] at k0_; exact k0_
  clear k0_ h0 w0
  obtain ⟨f1, y1, p1, h1, w1⟩ := hp 1 (by decide)
  obtain ⟨x1, k1_, g1⟩ := (opens_int (k := .i64) Try.underlying3) H enc f1 _ y1 p1 h1 w1
  have k1' : ((Kd.int .i64)).K W x1 ((cs.drop 1).take 1) := by have e : Try.prog.cellsOf 3 = 1 := (by kernel_rfl); rw [e] at k1_; exact k1_
  clear k1_ h1 w1
  have hk := (part_join 0 1 k0' (part_last 1 1 k1' (by omega)))
  rw [List.drop_zero] at hk
  exact ⟨⟨x0, x1⟩, hk, g0, g1⟩
set_option maxRecDepth 100000 in
theorem lifted (os : Os) (started : os.Started) (H : Type) (enc : TypeId × Value → H) :
    ReturnsInHanded {} Try.checked os 10 .any (Rows.linkRangeSpec.pre6 enc Try.prog Try.f10 Rows.linkRangeRow.domain false) (Rows.linkRangeSpec.post enc Try.prog Try.f10 false true false false) := by
  refine returnsInHanded_of_change_sized (C := Try.checked) own started (by kernel_rfl) Try.func10
    (ChangeSpec.witness6 (enc := enc) (C := Try.checked) false ⟨#[], #[.agg #[.int .i64 0, .int .i64 0], .int .i64 0, .int .i64 0], []⟩ 8 (by kernel_rfl) (by kernel_rfl) (by kernel_rfl) (by kernel_rfl)) ?_
  intro W base args ds gs before hval0 hW hcnd hsz0 _
  have hsz : (DataW.weightsEach Try.prog (Try.f10.params.toList ++ Rows.linkRangeSpec.plain.varTypes Try.prog) (ds ++ gs)).all (· ≤ reachBytes) = true := hsz0
  have hval : ∀ (j : Nat) t v, Try.f10.params[j]? = some t → args[j]? = some v → Value.okWide Try.prog W .any base t v := hval0
  have hW' := hW
  obtain ⟨p, q, hA0, hV, rfl, hfz, hnd⟩ := hW
  have hA : DataW.TrodAll enc Try.prog W 0 (fun _ => true) true Try.f10.params.toList args.toList ds p := hA0
  rw [Try.params10] at hA hval hsz
  obtain ⟨v0, vs0, d0, ds0, p0, q0, hargs, rfl, rfl, h0, r0⟩ := trodAll_cons hA
  obtain ⟨v1, vs1, d1, ds1, p1, q1, rfl, rfl, rfl, h1, r1⟩ := trodAll_cons r0
  obtain ⟨v2, vs2, d2, ds2, p2, q2, rfl, rfl, rfl, h2, r2⟩ := trodAll_cons r1
  obtain ⟨rfl, rfl, rfl⟩ := trodAll_nil r2
  obtain rfl : args = #[v0, v1, v2] := by cases args; simp_all
  obtain ⟨rfl, rfl⟩ := trodVars_none hV
  obtain ⟨cs0, rfl⟩ := okWide_arr Try.underlying71 (hval 0 71 v0 rfl rfl)
  have k0 := h0
  have lt0 : ∀ x ∈ p0, x.block < W.heap.size := by obtain ⟨m, hm⟩ := k0; exact DataW.trod_lt m _ _ _ hm
  obtain ⟨a0, z0, g0⟩ := opens_agg (op71 W) hsz (j := 0) rfl rfl h0
  have e0 := k71_open z0
  obtain rfl : cs0 = #[.int .i64 a0.f0, .int .i64 a0.f1] := by apply Array.toList_inj.mp; exact e0
  obtain ⟨a1, rfl, rfl, rfl, g1⟩ := open_int Try.underlying3 (hval 1 3 v1 rfl rfl) h1
  obtain ⟨a2, rfl, rfl, rfl, g2⟩ := open_int Try.underlying3 (hval 2 3 v2 rfl rfl) h2
  clear hA0 hval0 hsz0 hsz
  refine (Pure.LinkRange_hand a0.f0 a0.f1 a1 a2 W  g0 g1 g2).mono fun e W' ⟨he, bel0⟩ => ?_
  have bel : Below W.heap.size W W' := bel0
  subst he
  exact ⟨_, rfl, _, _, _, [], _, [], hW', trodAll_mk1 (shut_bool Try.underlying4 _), (trodAll_cons_mk (Below.trod laidOut (by kernel_rfl) (of_decide_eq_true (by kernel_rfl)) k0 bel lt0) (trodAll_cons_mk (shut_int Try.underlying3 g1) (trodAll_cons_mk (shut_int Try.underlying3 g2) trodAll_mk0))), rfl, bel.frame _, fun h => by cases h⟩
theorem over : Rows.linkRangeRow.holds Try.pinned (OpenSpec.ofChange Rows.linkRangeSpec) :=
  OpenClaim.holds_of_wide 10 Try.f10 rfl rfl rfl rfl rfl rfl rfl ⟨rfl, rfl, rfl, rfl, rfl⟩ rfl rfl rfl rfl rfl (by kernel_rfl) Try.func10 (by kernel_rfl)
    (of_decide_eq_true (by kernel_rfl)) (by unfold Func.isWrapper; first | (rw [if_pos (by decide +kernel)]; kernel_rfl) | (rw [if_neg (by decide +kernel)]; exact ⟨rfl, rfl⟩))
    (fun os started H enc _ => lifted os started H enc)
theorem proved : Rows.LinkRangeSaid := over
#print axioms proved
end Go.Proofs.Ythgdojaildccaaa.linkRange
