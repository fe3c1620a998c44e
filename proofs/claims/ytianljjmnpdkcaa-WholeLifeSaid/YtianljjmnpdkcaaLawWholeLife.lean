/- Written by a program of this session (a turned copy of the printer: wip/turnprint.py): for each Go function a plain one, and the walk that shows that the code comes to just its answers. -/
import Derived.Test.YtianljjmnpdkcaaRows
import Derived.Test.YtianljjmnpdkcaaRowWholeLife
import Derived.Test.YtianljjmnpdkcaaHandWholeLife
import Derived.WalkKit
import Derived.ProofKit
import Derived.OpenShut
import Derived.ShutString
import Derived.ChangeOld
import Derived.Below
import Derived.SizedLaws
namespace Go.Proofs.Ytianljjmnpdkcaa.wholeLife
open Go.ChangeShapes Go.WideShapes Go.ChangeAt Go.RowKit Go.Proofs.YtianljjmnpdkcaaW.PrintWords Go.Proofs.Ytianljjmnpdkcaa.M
open Go.ChangeMaps (open_string shut_string)
set_option linter.unusedVariables false
theorem own : ownKnob Try.prog.godebug = none := by kernel_rfl
theorem laidOut : laidOutB Try.prog = true := by kernel_rfl
set_option maxRecDepth 100000 in
theorem op31 (W : World) : Opens Try.prog W 31 k31 G31 := by
  intro H enc fuel cs dd ps h hw
  obtain ⟨hl, hp⟩ := struct_parts Try.underlying31 h hw
  have hl' : cs.length = 2 := hl.trans (by kernel_rfl)
  obtain ⟨f0, y0, p0, h0, w0⟩ := hp 0 _ rfl
  obtain ⟨x0, k0_, g0⟩ := (opens_int (k := .i64) Try.underlying3) H enc f0 _ y0 p0 h0 w0
  have k0' : ((Kd.int .i64)).K W x0 ((cs.drop 0).take 1) := by have e : Try.prog.cellsOf 3 = 1 := (by kernel_rfl); rw [← e]; exact k0_
  clear k0_ h0 w0
  obtain ⟨f1, y1, p1, h1, w1⟩ := hp 1 _ rfl
  obtain ⟨x1, k1_, g1⟩ := (opens_int (k := .i64) Try.underlying3) H enc f1 _ y1 p1 h1 w1
  have k1' : ((Kd.int .i64)).K W x1 ((cs.drop 1).take 1) := by have e : Try.prog.cellsOf 3 = 1 := (by kernel_rfl); rw [← e]; exact k1_
  clear k1_ h1 w1
  have hk := (part_join 0 1 k0' (part_last 1 1 k1' (by omega)))
  rw [List.drop_zero] at hk
  exact ⟨⟨x0, x1⟩, hk, g0, g1⟩
set_option maxRecDepth 100000 in
theorem op33 (W : World) : Opens Try.prog W 33 k33 G33 := by
  intro H enc fuel cs dd ps h hw
  obtain ⟨hl, hp⟩ := struct_parts Try.underlying33 h hw
  have hl' : cs.length = 8 := hl.trans (by kernel_rfl)
  obtain ⟨f0, y0, p0, h0, w0⟩ := hp 0 _ rfl
  obtain ⟨x0, k0_, g0⟩ := (op31 W) H enc f0 _ y0 p0 h0 w0
  have k0' : (k31).K W x0 ((cs.drop 0).take 2) := by have e : Try.prog.cellsOf 31 = 2 := (by kernel_rfl); rw [← e]; exact k0_
  clear k0_ h0 w0
  obtain ⟨f1, y1, p1, h1, w1⟩ := hp 1 _ rfl
  obtain ⟨x1, k1_, g1⟩ := (opens_int (k := .i64) Try.underlying3) H enc f1 _ y1 p1 h1 w1
  have k1' : ((Kd.int .i64)).K W x1 ((cs.drop 2).take 1) := by have e : Try.prog.cellsOf 3 = 1 := (by kernel_rfl); rw [← e]; exact k1_
  clear k1_ h1 w1
  obtain ⟨f2, y2, p2, h2, w2⟩ := hp 2 _ rfl
  obtain ⟨x2, k2_, g2⟩ := (opens_int (k := .i64) Try.underlying3) H enc f2 _ y2 p2 h2 w2
  have k2' : ((Kd.int .i64)).K W x2 ((cs.drop 3).take 1) := by have e : Try.prog.cellsOf 3 = 1 := (by kernel_rfl); rw [← e]; exact k2_
  clear k2_ h2 w2
  obtain ⟨f3, y3, p3, h3, w3⟩ := hp 3 _ rfl
  obtain ⟨x3, k3_, g3⟩ := (opens_int (k := .i64) Try.underlying2) H enc f3 _ y3 p3 h3 w3
  have k3' : ((Kd.int .i64)).K W x3 ((cs.drop 4).take 1) := by have e : Try.prog.cellsOf 2 = 1 := (by kernel_rfl); rw [← e]; exact k3_
  clear k3_ h3 w3
  obtain ⟨f4, y4, p4, h4, w4⟩ := hp 4 _ rfl
  obtain ⟨x4, k4_, g4⟩ := (opens_int (k := .i64) Try.underlying3) H enc f4 _ y4 p4 h4 w4
  have k4' : ((Kd.int .i64)).K W x4 ((cs.drop 5).take 1) := by have e : Try.prog.cellsOf 3 = 1 := (by kernel_rfl); rw [← e]; exact k4_
  clear k4_ h4 w4
  obtain ⟨f5, y5, p5, h5, w5⟩ := hp 5 _ rfl
  obtain ⟨x5, k5_, g5⟩ := (opens_int (k := .i64) Try.underlying3) H enc f5 _ y5 p5 h5 w5
  have k5' : ((Kd.int .i64)).K W x5 ((cs.drop 6).take 1) := by have e : Try.prog.cellsOf 3 = 1 := (by kernel_rfl); rw [← e]; exact k5_
  clear k5_ h5 w5
  obtain ⟨f6, y6, p6, h6, w6⟩ := hp 6 _ rfl
  obtain ⟨x6, k6_, g6⟩ := (opens_int (k := .i64) Try.underlying3) H enc f6 _ y6 p6 h6 w6
  have k6' : ((Kd.int .i64)).K W x6 ((cs.drop 7).take 1) := by have e : Try.prog.cellsOf 3 = 1 := (by kernel_rfl); rw [← e]; exact k6_
  clear k6_ h6 w6
  have hk := (part_join 0 2 k0' (part_join 2 1 k1' (part_join 3 1 k2' (part_join 4 1 k3' (part_join 5 1 k4' (part_join 6 1 k5' (part_last 7 1 k6' (by omega))))))))
  rw [List.drop_zero] at hk
  exact ⟨⟨x0, x1, x2, x3, x4, x5, x6⟩, hk, g0, g1, g2, g3, g4, g5, g6⟩
set_option maxRecDepth 100000 in
theorem op38 (W : World) : Opens Try.prog W 38 k38 G38 := by
  intro H enc fuel cs dd ps h hw
  obtain ⟨hl, hp⟩ := arr_parts Try.underlying38 h hw
  have hl' : cs.length = 3 := hl.trans (by kernel_rfl)
  obtain ⟨f0, y0, p0, h0, w0⟩ := hp 0 (by decide)
  obtain ⟨x0, k0_, g0⟩ := (opens_int (k := .i64) Try.underlying3) H enc f0 _ y0 p0 h0 w0
  have k0' : ((Kd.int .i64)).K W x0 ((cs.drop 0).take 1) := by have e : Try.prog.cellsOf 3 = 1 := (by kernel_rfl); rw [e] at k0_; exact k0_
  clear k0_ h0 w0
  obtain ⟨f1, y1, p1, h1, w1⟩ := hp 1 (by decide)
  obtain ⟨x1, k1_, g1⟩ := (opens_int (k := .i64) Try.underlying3) H enc f1 _ y1 p1 h1 w1
  have k1' : ((Kd.int .i64)).K W x1 ((cs.drop 1).take 1) := by have e : Try.prog.cellsOf 3 = 1 := (by kernel_rfl); rw [e] at k1_; exact k1_
  clear k1_ h1 w1
  obtain ⟨f2, y2, p2, h2, w2⟩ := hp 2 (by decide)
  obtain ⟨x2, k2_, g2⟩ := (opens_int (k := .i64) Try.underlying3) H enc f2 _ y2 p2 h2 w2
  have k2' : ((Kd.int .i64)).K W x2 ((cs.drop 2).take 1) := by have e : Try.prog.cellsOf 3 = 1 := (by kernel_rfl); rw [e] at k2_; exact k2_
  clear k2_ h2 w2
  have hk := (part_join 0 1 k0' (part_join 1 1 k1' (part_last 2 1 k2' (by omega))))
  rw [List.drop_zero] at hk
  exact ⟨⟨x0, x1, x2⟩, hk, g0, g1, g2⟩
set_option maxRecDepth 100000 in
theorem lifted (os : Os) (started : os.Started) (H : Type) (enc : TypeId × Value → H) :
    ReturnsInHanded {} Try.checked os 3 .any (Rows.wholeLifeSpec.pre6 enc Try.prog Try.f3 Rows.wholeLifeRow.domain false) (Rows.wholeLifeSpec.post enc Try.prog Try.f3 false true false false) := by
  refine returnsInHanded_of_change_sized (C := Try.checked) own started (by kernel_rfl) Try.func3
    (ChangeSpec.witness6 (enc := enc) (C := Try.checked) false ⟨#[], #[.slice none 0 0, .slice none 0 0], []⟩ 8 (by kernel_rfl) (by kernel_rfl) (by kernel_rfl) (by kernel_rfl)) ?_
  intro W base args ds gs before hval0 hW hcnd hsz0 _
  have hsz : (DataW.weightsEach Try.prog (Try.f3.params.toList ++ Rows.wholeLifeSpec.plain.varTypes Try.prog) (ds ++ gs)).all (· ≤ reachBytes) = true := hsz0
  have hval : ∀ (j : Nat) t v, Try.f3.params[j]? = some t → args[j]? = some v → Value.okWide Try.prog W .any base t v := hval0
  have hW' := hW
  obtain ⟨p, q, hA0, hV, rfl, hfz, hnd⟩ := hW
  have hA : DataW.TrodAll enc Try.prog W 0 (fun _ => true) true Try.f3.params.toList args.toList ds p := hA0
  rw [Try.params3] at hA hval hsz
  obtain ⟨v0, vs0, d0, ds0, p0, q0, hargs, rfl, rfl, h0, r0⟩ := trodAll_cons hA
  obtain ⟨v1, vs1, d1, ds1, p1, q1, rfl, rfl, rfl, h1, r1⟩ := trodAll_cons r0
  obtain ⟨rfl, rfl, rfl⟩ := trodAll_nil r1
  obtain rfl : args = #[v0, v1] := by cases args; simp_all
  obtain ⟨rfl, rfl⟩ := trodVars_none hV
  obtain ⟨a0, len0, cap0, rfl⟩ := okWide_slice Try.underlying22 (hval 0 22 v0 rfl rfl)
  have k0 := h0
  have lt0 : ∀ x ∈ p0, x.block < W.heap.size := by obtain ⟨m, hm⟩ := k0; exact DataW.trod_lt m _ _ _ hm
  obtain ⟨l0, rfl, c0, z0, g0⟩ := opens_arg (G := (fun (x_ : S33) => G33 x_)) Try.underlying22 (by kernel_rfl) (op33 W) hsz (j := 0) rfl rfl h0
  have b0 : Try.prog.bytesOf 33 = 64 := by kernel_rfl
  rw [b0] at g0
  obtain ⟨a1, len1, cap1, rfl⟩ := okWide_slice Try.underlying23 (hval 1 23 v1 rfl rfl)
  have k1 := h1
  have lt1 : ∀ x ∈ p1, x.block < W.heap.size := by obtain ⟨m, hm⟩ := k1; exact DataW.trod_lt m _ _ _ hm
  obtain ⟨l1, rfl, c1, z1, g1⟩ := opens_arg (G := (fun (x_ : S38) => G38 x_)) Try.underlying23 (by kernel_rfl) (op38 W) hsz (j := 1) rfl rfl h1
  have b1 : Try.prog.bytesOf 38 = 24 := by kernel_rfl
  rw [b1] at g1
  clear hA0 hval0 hsz0 hsz
  refine (Pure.WholeLife_hand a0 cap0 l0 a1 cap1 l1 W z0 c0 z1 c1 g0 g1).mono fun e W' ⟨he, bel0⟩ => ?_
  have bel : Below W.heap.size W W' := bel0
  subst he
  exact ⟨_, rfl, _, _, _, [], _, [], hW', trodAll_mk1 (shut_bool Try.underlying4 _), (trodAll_cons_mk (Below.trod laidOut (by kernel_rfl) (of_decide_eq_true (by kernel_rfl)) k0 bel lt0) (trodAll_cons_mk (Below.trod laidOut (by kernel_rfl) (of_decide_eq_true (by kernel_rfl)) k1 bel lt1) trodAll_mk0)), rfl, bel.frame _, fun h => by cases h⟩
theorem over : Rows.wholeLifeRow.holds Try.pinned (OpenSpec.ofChange Rows.wholeLifeSpec) :=
  OpenClaim.holds_of_wide 3 Try.f3 rfl rfl rfl rfl rfl rfl rfl ⟨rfl, rfl, rfl, rfl, rfl⟩ rfl rfl rfl rfl rfl (by kernel_rfl) Try.func3 (by kernel_rfl)
    (of_decide_eq_true (by kernel_rfl)) (by unfold Func.isWrapper; first | (rw [if_pos (by decide +kernel)]; kernel_rfl) | (rw [if_neg (by decide +kernel)]; exact ⟨rfl, rfl⟩))
    (fun os started H enc _ => lifted os started H enc)
theorem proved : Rows.WholeLifeSaid := over
#print axioms proved
end Go.Proofs.Ytianljjmnpdkcaa.wholeLife
