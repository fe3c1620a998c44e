/- Written by a program of this session (a turned copy of the printer: wip/turnprint.py): for each Go function a plain one, and the walk that shows that the code comes to just its answers. -/
import Derived.Test.YthpdmjpimeibnaaMx0
import Derived.Test.YthpdmjpimeibnaaMx1
namespace Go.Proofs.Ythpdmjpimeibnaa.M
open Go.RowKit Go.Proofs.YthpdmjpimeibnaaW.PrintWords Go.Proofs.YthpdmjpimeibnaaW.PrintLast Go.Proofs.YthpdmjpimeibnaaW.PrintMore
attribute [local go_sem] max2_int min2_int max_two min_two max_three min_three max_four min_four   -- for this text's walks alone
set_option linter.unusedVariables false
set_option linter.unusedSimpArgs false

/-! ### contraref06_Write: function 41 -/
def contraref06_Write.f (a0_0 : Int) (a0_1 : ByteArray) (a0_2 : ByteArray) (a0_3 : Bool) (a0_4 : Bool) (a0_5 : Int) (a1 : ByteArray) : Option (Int × ByteArray × ByteArray × Bool × Bool × Int × Int) := if a0_4 = true then (some (a0_0, a0_1, a0_2, a0_3, a0_4, a0_5, 60)) else ((contraref06_All.f a0_0 a0_1 a0_2 a0_3 a0_4 a0_5).bind fun t138 => (if (a1.size : Int) > (wrap64 (a0_0 - (t138.size : Int))) then (some (a0_0, a0_1, a0_2, a0_3, a0_4, a0_5, 3)) else ((contraref06_burn.f a0_0 a0_1 a0_2 a0_3 a0_4 a0_5 (a1.size : Int)).bind fun bt139 => (if 0 ≤ bt139.2.2.2.2.2.2.1 then (if bt139.2.2.2.2.2.2.1 ≤ (a1.size : Int) then (if bt139.2.2.1.size + (a1.extract 0 (bt139.2.2.2.2.2.2.1 : Int).toNat).size ≤ 9223372036854775807 then (if bt139.2.2.2.2.2.2.2 = true then (some (bt139.1, bt139.2.1, bt139.2.2.1 ++ (a1.extract 0 (bt139.2.2.2.2.2.2.1 : Int).toNat), bt139.2.2.2.1, bt139.2.2.2.2.1, bt139.2.2.2.2.2.1, 0)) else (some (bt139.1, bt139.2.1, bt139.2.2.1 ++ (a1.extract 0 (bt139.2.2.2.2.2.2.1 : Int).toNat), bt139.2.2.2.1, bt139.2.2.2.2.1, bt139.2.2.2.2.2.1, 60))) else (none)) else (none)) else (none)))))
def contraref06_Write.T3 : Bool × List (List Nat × List Nat) := (true, [([], []), ([0], [0]), ([], []), ([2], [2]), ([], []), ([4], [4]), ([5], [5]), ([3, 6], [3, 6]), ([1, 7], [1, 7])])
def contraref06_Write.B3 : List Nat := [0, 1, 0, 4, 0, 16, 48, 124, 255]
theorem contraref06_Write.tab3 : rtab .any (opsOf Try.f41 3) = contraref06_Write.T3 := by kernel_rfl
theorem contraref06_Write.bits3 : waitsOk contraref06_Write.T3.2 contraref06_Write.B3 = true := by kernel_rfl
def contraref06_Write.T6 : Bool × List (List Nat × List Nat) := (true, [([], []), ([0], [0]), ([], []), ([], []), ([2, 3], [2, 3]), ([1, 4], [1, 4]), ([0, 1, 2, 3, 4, 5], []), ([6, 5, 0, 1, 2, 3, 4, 5], [5, 6])])
def contraref06_Write.B6 : List Nat := [0, 1, 0, 0, 12, 31, 63, 127]
theorem contraref06_Write.tab6 : rtab .any (opsOf Try.f41 6) = contraref06_Write.T6 := by kernel_rfl
theorem contraref06_Write.bits6 : waitsOk contraref06_Write.T6.2 contraref06_Write.B6 = true := by kernel_rfl
set_option maxHeartbeats 8000000 in
set_option maxRecDepth 100000 in
theorem contraref06_Write.calls (a0_0 : Int) (a0_1 : ByteArray) (a0_2 : ByteArray) (a0_3 : Bool) (a0_4 : Bool) (a0_5 : Int) (a1 : ByteArray) (r1 : Int) (r2 : ByteArray) (r3 : ByteArray) (r4 : Bool) (r5 : Bool) (r6 : Int) (r7 : Int) (w : World) (h : contraref06_Write.f a0_0 a0_1 a0_2 a0_3 a0_4 a0_5 a1 = some (r1, r2, r3, r4, r5, r6, r7)) :
    Calls Try.prog 41 #[.agg #[.int .i64 a0_0, .string a0_1, .string a0_2, .bool a0_3, .bool a0_4, .int .i64 a0_5], .string a1] w fun e w' => e = .returned (.tuple #[.agg #[.int .i64 r1, .string r2, .string r3, .bool r4, .bool r5, .int .i64 r6], .int .i64 r7]) ∧ Below w.heap.size w w' := by
  have hu41 := Try.underlying41
  have HB := Aside0.mk (Below.refl w.heap.size w)
  have H : (if a0_4 = true then (some (a0_0, a0_1, a0_2, a0_3, a0_4, a0_5, 60)) else ((contraref06_All.f a0_0 a0_1 a0_2 a0_3 a0_4 a0_5).bind fun t138 => (if (a1.size : Int) > (wrap64 (a0_0 - (t138.size : Int))) then (some (a0_0, a0_1, a0_2, a0_3, a0_4, a0_5, 3)) else ((contraref06_burn.f a0_0 a0_1 a0_2 a0_3 a0_4 a0_5 (a1.size : Int)).bind fun bt139 => (if 0 ≤ bt139.2.2.2.2.2.2.1 then (if bt139.2.2.2.2.2.2.1 ≤ (a1.size : Int) then (if bt139.2.2.1.size + (a1.extract 0 (bt139.2.2.2.2.2.2.1 : Int).toNat).size ≤ 9223372036854775807 then (if bt139.2.2.2.2.2.2.2 = true then (some (bt139.1, bt139.2.1, bt139.2.2.1 ++ (a1.extract 0 (bt139.2.2.2.2.2.2.1 : Int).toNat), bt139.2.2.2.1, bt139.2.2.2.2.1, bt139.2.2.2.2.2.1, 0)) else (some (bt139.1, bt139.2.1, bt139.2.2.1 ++ (a1.extract 0 (bt139.2.2.2.2.2.2.1 : Int).toNat), bt139.2.2.2.1, bt139.2.2.2.2.1, bt139.2.2.2.2.2.1, 60))) else (none)) else (none)) else (none)))))) = some (r1, r2, r3, r4, r5, r6, r7) := h
  clear h
  by_cases c3 : a0_4 = true
  · subst c3
    have H1 : (some (a0_0, a0_1, a0_2, a0_3, true, a0_5, 60)) = some (r1, r2, r3, r4, r5, r6, r7) := by rw [if_pos rfl] at H; exact H
    clear H
    have H := H1
    clear H1
    simp only [Option.some.injEq, Prod.mk.injEq] at H
    obtain ⟨rfl, rfl, rfl, rfl, rfl, rfl, rfl⟩ := H
    go_enter Try.func41, Try.ntmps41
    go_wp2_with (first | ((with_reducible refine gate_dst (N := 2) rfl ?_); refine box_event ?hg (N := 2) ?hd (cs := #[.int .i64 a0_0, .string a0_1, .string a0_2, .bool a0_3, .bool true, .int .i64 a0_5]) (t := 41) ?hr ?_; (case hd => rfl); (case hg => rfl); (case hr => first | (go_simp; done) | (go_simp; rfl)); intro gb136 hg w4 hbox hb; have n0_ := Aside0.mk (below_step (by repeat (first | (with_reducible first | exact HB.out | apply below_alloc | apply pw_below_drewN | apply below_drew1) | exact HB.out)) hb); have n1_ := Aside0.mk (hbox); have n2_ := Aside0.mk ((by rw [hg]; exact (below_size (by repeat (first | (with_reducible first | exact HB.out | apply below_alloc | apply pw_below_drewN | apply below_drew1) | exact HB.out))) : w.heap.size ≤ gb136)); have n3_ := Aside0.mk ((by rw [hg]; exact (below_size (by repeat (first | (with_reducible first | exact HB.out | apply below_alloc | apply pw_below_drewN | apply below_drew1) | exact HB.out))) : w.heap.size ≤ gb136)); clear HB; have HB := n0_; have BK136 := n1_; have GW136 := n2_; have GE136 := n3_; clear n0_ n1_ n2_ n3_; clear hb hbox hg) | ((with_reducible refine gate_dst (N := 4) rfl ?_); refine box_event ?hg (N := 4) ?hd (cs := #[.int .i64 0, .string (⟨#[]⟩ : ByteArray), .string (⟨#[]⟩ : ByteArray), .bool false, .bool false, .int .i64 0]) (t := 41) ?hr ?_; (case hd => rfl); (case hg => rfl); (case hr => first | (go_simp; done) | (go_simp; rfl)); intro gb137 hg w5 hbox hb; have n0_ := Aside0.mk (blk_below (g := gb136) (o := .cells #[.int .i64 a0_0, .string a0_1, .string a0_2, .bool a0_3, .bool true, .int .i64 a0_5] 41 (0, 0)) (by (with_reducible repeat (first | refine blk_drewN ?_ _ | refine blk_drew ?_ | refine blk_alloc ?_ _)); exact BK136.out) hb); have n1_ := Aside0.mk (below_step (by repeat (first | (with_reducible first | exact HB.out | apply below_alloc | apply pw_below_drewN | apply below_drew1 | refine below_set ?_ GE136.out) | exact HB.out)) hb); have n2_ := Aside0.mk (hbox); have n3_ := Aside0.mk ((by rw [hg]; exact (below_size (by repeat (first | (with_reducible first | exact HB.out | apply below_alloc | apply pw_below_drewN | apply below_drew1 | refine below_set ?_ GE136.out) | exact HB.out))) : w.heap.size ≤ gb137)); have n4_ := Aside0.mk ((by rw [hg]; exact (below_size (by repeat (first | (with_reducible first | exact HB.out | apply below_alloc | apply pw_below_drewN | apply below_drew1 | refine below_set ?_ GE136.out) | exact HB.out))) : w.heap.size ≤ gb137)); have n5_ := Aside0.mk ((by rw [hg]; exact Nat.ne_of_lt (blk_lt (g := gb136) (o := .cells #[.int .i64 a0_0, .string a0_1, .string a0_2, .bool a0_3, .bool true, .int .i64 a0_5] 41 (0, 0)) (by (with_reducible repeat (first | refine blk_drewN ?_ _ | refine blk_drew ?_ | refine blk_alloc ?_ _)); exact BK136.out)) : gb136 ≠ gb137)); have n6_ := Aside0.mk ((by rw [hg]; exact Nat.ne_of_gt (blk_lt (g := gb136) (o := .cells #[.int .i64 a0_0, .string a0_1, .string a0_2, .bool a0_3, .bool true, .int .i64 a0_5] 41 (0, 0)) (by (with_reducible repeat (first | refine blk_drewN ?_ _ | refine blk_drew ?_ | refine blk_alloc ?_ _)); exact BK136.out)) : gb137 ≠ gb136)); clear BK136; clear HB; have BK136 := n0_; have HB := n1_; have BK137 := n2_; have GW137 := n3_; have GE137 := n4_; have NB136_137 := n5_; have NB137_136 := n6_; clear n0_ n1_ n2_ n3_ n4_ n5_ n6_; clear hb hbox hg; have hnb6 := NB136_137.out; have hnc6 := NB137_136.out; have hcz7_0 : w5.cell? ⟨gb136, 0, none⟩ = some (.int .i64 a0_0) := (blk_cell BK136.out 0).trans rfl; have hcz7_1 : w5.cell? ⟨gb136, 1, none⟩ = some (.string a0_1) := (blk_cell BK136.out 1).trans rfl; have hcz7_2 : w5.cell? ⟨gb136, 2, none⟩ = some (.string a0_2) := (blk_cell BK136.out 2).trans rfl; have hcz7_3 : w5.cell? ⟨gb136, 3, none⟩ = some (.bool a0_3) := (blk_cell BK136.out 3).trans rfl; have hcz7_4 : w5.cell? ⟨gb136, 4, none⟩ = some (.bool true) := (blk_cell BK136.out 4).trans rfl; have hcz7_5 : w5.cell? ⟨gb136, 5, none⟩ = some (.int .i64 a0_5) := (blk_cell BK136.out 5).trans rfl; have hfz7_0 := blk_frozen BK136.out 0; have hfz7_1 := blk_frozen BK136.out 1; have hfz7_2 := blk_frozen BK136.out 2; have hfz7_3 := blk_frozen BK136.out 3; have hfz7_4 := blk_frozen BK136.out 4; have hfz7_5 := blk_frozen BK136.out 5; have hcz8_0 : w5.cell? ⟨gb137, 0, none⟩ = some (.int .i64 0) := (blk_cell BK137.out 0).trans rfl; have hcz8_1 : w5.cell? ⟨gb137, 1, none⟩ = some (.string (⟨#[]⟩ : ByteArray)) := (blk_cell BK137.out 1).trans rfl; have hcz8_2 : w5.cell? ⟨gb137, 2, none⟩ = some (.string (⟨#[]⟩ : ByteArray)) := (blk_cell BK137.out 2).trans rfl; have hcz8_3 : w5.cell? ⟨gb137, 3, none⟩ = some (.bool false) := (blk_cell BK137.out 3).trans rfl; have hcz8_4 : w5.cell? ⟨gb137, 4, none⟩ = some (.bool false) := (blk_cell BK137.out 4).trans rfl; have hcz8_5 : w5.cell? ⟨gb137, 5, none⟩ = some (.int .i64 0) := (blk_cell BK137.out 5).trans rfl; have hfz8_0 := blk_frozen BK137.out 0; have hfz8_1 := blk_frozen BK137.out 1; have hfz8_2 := blk_frozen BK137.out 2; have hfz8_3 := blk_frozen BK137.out 3; have hfz8_4 := blk_frozen BK137.out 4; have hfz8_5 := blk_frozen BK137.out 5))
    refine bodyPost_ret (results_ct rfl _ _ gb137 41 #[.int .i64 a0_0, .string a0_1, .string a0_2, .bool a0_3, .bool true, .int .i64 a0_5] (0, 0) _ rfl (by (with_reducible repeat (first | refine blk_drewN ?_ _ | refine blk_drew ?_ | refine blk_alloc ?_ _)); refine blk_put (cs := #[.int .i64 a0_0, .string a0_1, .string a0_2, .bool a0_3, .bool true, .int .i64 0]) ?_ 5 _ rfl; (with_reducible repeat (first | refine blk_drewN ?_ _ | refine blk_drew ?_ | refine blk_alloc ?_ _)); refine blk_put (cs := #[.int .i64 a0_0, .string a0_1, .string a0_2, .bool a0_3, .bool false, .int .i64 0]) ?_ 4 _ rfl; (with_reducible repeat (first | refine blk_drewN ?_ _ | refine blk_drew ?_ | refine blk_alloc ?_ _)); refine blk_put (cs := #[.int .i64 a0_0, .string a0_1, .string a0_2, .bool false, .bool false, .int .i64 0]) ?_ 3 _ rfl; (with_reducible repeat (first | refine blk_drewN ?_ _ | refine blk_drew ?_ | refine blk_alloc ?_ _)); refine blk_put (cs := #[.int .i64 a0_0, .string a0_1, .string (⟨#[]⟩ : ByteArray), .bool false, .bool false, .int .i64 0]) ?_ 2 _ rfl; (with_reducible repeat (first | refine blk_drewN ?_ _ | refine blk_drew ?_ | refine blk_alloc ?_ _)); refine blk_put (cs := #[.int .i64 a0_0, .string (⟨#[]⟩ : ByteArray), .string (⟨#[]⟩ : ByteArray), .bool false, .bool false, .int .i64 0]) ?_ 1 _ rfl; (with_reducible repeat (first | refine blk_drewN ?_ _ | refine blk_drew ?_ | refine blk_alloc ?_ _)); refine blk_put (cs := #[.int .i64 0, .string (⟨#[]⟩ : ByteArray), .string (⟨#[]⟩ : ByteArray), .bool false, .bool false, .int .i64 0]) ?_ 0 _ rfl; (with_reducible repeat (first | refine blk_drewN ?_ _ | refine blk_drew ?_ | refine blk_alloc ?_ _)); exact BK137.out) Try.underlying41 rfl (by kernel_rfl)) rfl ?_
    exact ⟨by first | rfl | (simp [errW_none, errW_some] <;> rfl) | (simp [*, errW_none, errW_some] <;> rfl), by repeat (first | (with_reducible first | exact HB.out | apply below_alloc | apply pw_below_drewN | apply below_drew1 | refine below_set ?_ GE136.out | refine below_set ?_ GE137.out) | exact HB.out)⟩
  · replace c3 := Bool.eq_false_iff.mpr c3
    subst c3
    have H1 : ((contraref06_All.f a0_0 a0_1 a0_2 a0_3 false a0_5).bind fun t138 => (if (a1.size : Int) > (wrap64 (a0_0 - (t138.size : Int))) then (some (a0_0, a0_1, a0_2, a0_3, false, a0_5, 3)) else ((contraref06_burn.f a0_0 a0_1 a0_2 a0_3 false a0_5 (a1.size : Int)).bind fun bt139 => (if 0 ≤ bt139.2.2.2.2.2.2.1 then (if bt139.2.2.2.2.2.2.1 ≤ (a1.size : Int) then (if bt139.2.2.1.size + (a1.extract 0 (bt139.2.2.2.2.2.2.1 : Int).toNat).size ≤ 9223372036854775807 then (if bt139.2.2.2.2.2.2.2 = true then (some (bt139.1, bt139.2.1, bt139.2.2.1 ++ (a1.extract 0 (bt139.2.2.2.2.2.2.1 : Int).toNat), bt139.2.2.2.1, bt139.2.2.2.2.1, bt139.2.2.2.2.2.1, 0)) else (some (bt139.1, bt139.2.1, bt139.2.2.1 ++ (a1.extract 0 (bt139.2.2.2.2.2.2.1 : Int).toNat), bt139.2.2.2.1, bt139.2.2.2.2.1, bt139.2.2.2.2.2.1, 60))) else (none)) else (none)) else (none))))) = some (r1, r2, r3, r4, r5, r6, r7) := by rw [if_neg (show ¬ (false = true) by decide)] at H; exact H
    clear H
    have H := H1
    clear H1
    replace H := Option.bind_eq_some_iff.mp H
    obtain ⟨t138, A90, H⟩ := H
    replace H : (if (a1.size : Int) > (wrap64 (a0_0 - (t138.size : Int))) then (some (a0_0, a0_1, a0_2, a0_3, false, a0_5, 3)) else ((contraref06_burn.f a0_0 a0_1 a0_2 a0_3 false a0_5 (a1.size : Int)).bind fun bt139 => (if 0 ≤ bt139.2.2.2.2.2.2.1 then (if bt139.2.2.2.2.2.2.1 ≤ (a1.size : Int) then (if bt139.2.2.1.size + (a1.extract 0 (bt139.2.2.2.2.2.2.1 : Int).toNat).size ≤ 9223372036854775807 then (if bt139.2.2.2.2.2.2.2 = true then (some (bt139.1, bt139.2.1, bt139.2.2.1 ++ (a1.extract 0 (bt139.2.2.2.2.2.2.1 : Int).toNat), bt139.2.2.2.1, bt139.2.2.2.2.1, bt139.2.2.2.2.2.1, 0)) else (some (bt139.1, bt139.2.1, bt139.2.2.1 ++ (a1.extract 0 (bt139.2.2.2.2.2.2.1 : Int).toNat), bt139.2.2.2.1, bt139.2.2.2.2.1, bt139.2.2.2.2.2.1, 60))) else (none)) else (none)) else (none)))) = some (r1, r2, r3, r4, r5, r6, r7) := H
    have A9 := Aside0.mk A90
    clear A90
    by_cases c10 : (a1.size : Int) > (wrap64 (a0_0 - (t138.size : Int)))
    · rw [if_pos c10] at H
      have c10b0 : decide ((wrap64 (a0_0 - (t138.size : Int))) < (a1.size : Int)) = true := decide_eq_true c10
      clear c10
      simp only [Option.some.injEq, Prod.mk.injEq] at H
      obtain ⟨rfl, rfl, rfl, rfl, rfl, rfl, rfl⟩ := H
      go_enter Try.func41, Try.ntmps41
      try go_wp2_with (first | ((with_reducible refine gate_dst (N := 2) rfl ?_); refine box_event ?hg (N := 2) ?hd (cs := #[.int .i64 a0_0, .string a0_1, .string a0_2, .bool a0_3, .bool false, .int .i64 a0_5]) (t := 41) ?hr ?_; (case hd => rfl); (case hg => rfl); (case hr => first | (go_simp; done) | (go_simp; rfl)); intro gb136 hg w11 hbox hb; have n0_ := Aside0.mk (below_step (by repeat (first | (with_reducible first | exact HB.out | apply below_alloc | apply pw_below_drewN | apply below_drew1) | exact HB.out)) hb); have n1_ := Aside0.mk (hbox); have n2_ := Aside0.mk ((by rw [hg]; exact (below_size (by repeat (first | (with_reducible first | exact HB.out | apply below_alloc | apply pw_below_drewN | apply below_drew1) | exact HB.out))) : w.heap.size ≤ gb136)); have n3_ := Aside0.mk ((by rw [hg]; exact (below_size (by repeat (first | (with_reducible first | exact HB.out | apply below_alloc | apply pw_below_drewN | apply below_drew1) | exact HB.out))) : w.heap.size ≤ gb136)); clear HB; have HB := n0_; have BK136 := n1_; have GW136 := n2_; have GE136 := n3_; clear n0_ n1_ n2_ n3_; clear hb hbox hg) | ((with_reducible refine gate_dst (N := 4) rfl ?_); refine box_event ?hg (N := 4) ?hd (cs := #[.int .i64 0, .string (⟨#[]⟩ : ByteArray), .string (⟨#[]⟩ : ByteArray), .bool false, .bool false, .int .i64 0]) (t := 41) ?hr ?_; (case hd => rfl); (case hg => rfl); (case hr => first | (go_simp; done) | (go_simp; rfl)); intro gb137 hg w12 hbox hb; have n0_ := Aside0.mk (blk_below (g := gb136) (o := .cells #[.int .i64 a0_0, .string a0_1, .string a0_2, .bool a0_3, .bool false, .int .i64 a0_5] 41 (0, 0)) (by (with_reducible repeat (first | refine blk_drewN ?_ _ | refine blk_drew ?_ | refine blk_alloc ?_ _)); exact BK136.out) hb); have n1_ := Aside0.mk (below_step (by repeat (first | (with_reducible first | exact HB.out | apply below_alloc | apply pw_below_drewN | apply below_drew1 | refine below_set ?_ GE136.out) | exact HB.out)) hb); have n2_ := Aside0.mk (hbox); have n3_ := Aside0.mk ((by rw [hg]; exact (below_size (by repeat (first | (with_reducible first | exact HB.out | apply below_alloc | apply pw_below_drewN | apply below_drew1 | refine below_set ?_ GE136.out) | exact HB.out))) : w.heap.size ≤ gb137)); have n4_ := Aside0.mk ((by rw [hg]; exact (below_size (by repeat (first | (with_reducible first | exact HB.out | apply below_alloc | apply pw_below_drewN | apply below_drew1 | refine below_set ?_ GE136.out) | exact HB.out))) : w.heap.size ≤ gb137)); have n5_ := Aside0.mk ((by rw [hg]; exact Nat.ne_of_lt (blk_lt (g := gb136) (o := .cells #[.int .i64 a0_0, .string a0_1, .string a0_2, .bool a0_3, .bool false, .int .i64 a0_5] 41 (0, 0)) (by (with_reducible repeat (first | refine blk_drewN ?_ _ | refine blk_drew ?_ | refine blk_alloc ?_ _)); exact BK136.out)) : gb136 ≠ gb137)); have n6_ := Aside0.mk ((by rw [hg]; exact Nat.ne_of_gt (blk_lt (g := gb136) (o := .cells #[.int .i64 a0_0, .string a0_1, .string a0_2, .bool a0_3, .bool false, .int .i64 a0_5] 41 (0, 0)) (by (with_reducible repeat (first | refine blk_drewN ?_ _ | refine blk_drew ?_ | refine blk_alloc ?_ _)); exact BK136.out)) : gb137 ≠ gb136)); clear BK136; clear HB; have BK136 := n0_; have HB := n1_; have BK137 := n2_; have GW137 := n3_; have GE137 := n4_; have NB136_137 := n5_; have NB137_136 := n6_; clear n0_ n1_ n2_ n3_ n4_ n5_ n6_; clear hb hbox hg; have hnb13 := NB136_137.out; have hnc13 := NB137_136.out; have hcz14_0 : w12.cell? ⟨gb136, 0, none⟩ = some (.int .i64 a0_0) := (blk_cell BK136.out 0).trans rfl; have hcz14_1 : w12.cell? ⟨gb136, 1, none⟩ = some (.string a0_1) := (blk_cell BK136.out 1).trans rfl; have hcz14_2 : w12.cell? ⟨gb136, 2, none⟩ = some (.string a0_2) := (blk_cell BK136.out 2).trans rfl; have hcz14_3 : w12.cell? ⟨gb136, 3, none⟩ = some (.bool a0_3) := (blk_cell BK136.out 3).trans rfl; have hcz14_4 : w12.cell? ⟨gb136, 4, none⟩ = some (.bool false) := (blk_cell BK136.out 4).trans rfl; have hcz14_5 : w12.cell? ⟨gb136, 5, none⟩ = some (.int .i64 a0_5) := (blk_cell BK136.out 5).trans rfl; have hfz14_0 := blk_frozen BK136.out 0; have hfz14_1 := blk_frozen BK136.out 1; have hfz14_2 := blk_frozen BK136.out 2; have hfz14_3 := blk_frozen BK136.out 3; have hfz14_4 := blk_frozen BK136.out 4; have hfz14_5 := blk_frozen BK136.out 5))
      have n0_ := Aside0.mk (blk_drew BK136.out)
      have n1_ := Aside0.mk (blk_drew BK137.out)
      have n2_ := Aside0.mk (below_drew1 HB.out)
      clear BK136
      clear BK137
      clear HB
      have BK136 := n0_
      have BK137 := n1_
      have HB := n2_
      clear n0_ n1_ n2_
      refine start_ (n := 9) (S := fun w' => w'.cell? ⟨gb136, 0, none⟩ = some (.int .i64 a0_0) ∧ w'.cell? ⟨gb136, 1, none⟩ = some (.string a0_1) ∧ w'.cell? ⟨gb136, 2, none⟩ = some (.string a0_2) ∧ w'.cell? ⟨gb136, 3, none⟩ = some (.bool a0_3) ∧ w'.cell? ⟨gb136, 4, none⟩ = some (.bool false) ∧ w'.cell? ⟨gb136, 5, none⟩ = some (.int .i64 a0_5)) (ds := []) #[false, false, false, false, false, false, false, false, false] (by kernel_rfl) rfl rfl ⟨(blk_cell BK136.out 0).trans rfl, (blk_cell BK136.out 1).trans rfl, (blk_cell BK136.out 2).trans rfl, (blk_cell BK136.out 3).trans rfl, (blk_cell BK136.out 4).trans rfl, (blk_cell BK136.out 5).trans rfl⟩ (fun hHeld => ?_); refine with_tabW contraref06_Write.tab3 contraref06_Write.bits3 (fun HT_ HW_ => ?_)
      generalize w12.drew = w15 at BK136 BK137 HB hHeld ⊢
      refine pure_ (i := 0) (N := some 12) (v := ?_) (a' := ?_) #[true, false, false, false, false, false, false, false, false] rfl rfl (any_of HT_.out (by kernel_rfl)) (fun _ _ _ h => h) (Or.inl ⟨by rfl, ?_⟩) ?_ ?_
      rotate_left
      · intro w'
        go_simp
        with_reducible rfl
      rotate_left
      · simp only [Act.put, List.setIfInBounds_toArray, List.set_cons_zero, List.set_cons_succ, i64_w, i32_w]
        rfl
      refine pure_ (i := 1) (N := some 13) (v := ?_) (a' := ?_) #[true, true, false, false, false, false, false, false, false] rfl rfl (any_of HT_.out (by kernel_rfl)) (fun _ _ _ h => h) (Or.inl ⟨by rfl, ?_⟩) ?_ ?_
      rotate_left
      · intro w'
        go_simp
        with_reducible rfl
      rotate_left
      · simp only [Act.put, List.setIfInBounds_toArray, List.set_cons_zero, List.set_cons_succ, i64_w, i32_w]
        rfl
      refine pure_ (i := 2) (N := some 14) (v := ?_) (a' := ?_) #[true, true, true, false, false, false, false, false, false] rfl rfl (any_of HT_.out (by kernel_rfl)) (fun _ _ _ h => h) (Or.inl ⟨by rfl, ?_⟩) ?_ ?_
      rotate_left
      · intro w'
        go_simp
        with_reducible rfl
      rotate_left
      · simp only [Act.put, List.setIfInBounds_toArray, List.set_cons_zero, List.set_cons_succ, i64_w, i32_w]
        rfl
      refine take_ (i := 3) (N := some 15) (v := ?_) (a' := ?_) #[true, true, true, true, false, false, false, false, false] rfl rfl (take_ofW HT_.out HW_.out (by kernel_rfl)) (fun _ _ _ h => h) (Or.inl ⟨by rfl, ?_⟩) hHeld ?_ ?_
      rotate_left
      · rintro w' ⟨s0, s1, s2, s3, s4, s5⟩
        go_simp
        with_reducible rfl
      rotate_left
      · simp only [Act.put, List.setIfInBounds_toArray, List.set_cons_zero, List.set_cons_succ, i64_w, i32_w]
        rfl
      refine take_ (i := 4) (N := some 16) (v := ?_) (a' := ?_) #[true, true, true, true, true, false, false, false, false] rfl rfl (take_ofW HT_.out HW_.out (by kernel_rfl)) (fun _ _ _ h => h) (Or.inl ⟨by rfl, ?_⟩) hHeld ?_ ?_
      rotate_left
      · rintro w' ⟨s0, s1, s2, s3, s4, s5⟩
        go_simp
        with_reducible rfl
      rotate_left
      · simp only [Act.put, List.setIfInBounds_toArray, List.set_cons_zero, List.set_cons_succ, i64_w, i32_w]
        rfl
      refine one_ (i := 5) (N := some 17) #[true, true, true, true, true, true, false, false, false] rfl rfl (one_of HT_.out (by kernel_rfl)) (by decide) (fun K hK => ?_)
      refine goes_ Try.func53 (by kernel_rfl) rfl #[.agg #[.int .i64 a0_0, .string a0_1, .string a0_2, .bool a0_3, .bool false, .int .i64 a0_5]] (by rfl) rfl rfl (by (try simp only [List.map_toArray, List.map_cons, List.map_nil]); first | done | rfl | (simp only [List.length_drop, List.length_take]; rfl)) ?_
      with_reducible refine (contraref06_All.calls a0_0 a0_1 a0_2 a0_3 false a0_5 t138 _ A9.out).mono ?_
      rintro e w16 ⟨rfl, hb⟩
      refine ⟨_, rfl, ?_⟩
      have n0_ := Aside0.mk (blk_below (g := gb136) (o := .cells #[.int .i64 a0_0, .string a0_1, .string a0_2, .bool a0_3, .bool false, .int .i64 a0_5] 41 (0, 0)) (by (with_reducible repeat (first | refine blk_drewN ?_ _ | refine blk_drew ?_ | refine blk_alloc ?_ _)); exact BK136.out) hb)
      have n1_ := Aside0.mk (blk_below (g := gb137) (o := .cells #[.int .i64 0, .string (⟨#[]⟩ : ByteArray), .string (⟨#[]⟩ : ByteArray), .bool false, .bool false, .int .i64 0] 41 (0, 0)) (by (with_reducible repeat (first | refine blk_drewN ?_ _ | refine blk_drew ?_ | refine blk_alloc ?_ _)); exact BK137.out) hb)
      have n2_ := Aside0.mk (below_step (by repeat (first | (with_reducible first | exact HB.out | apply below_alloc | apply pw_below_drewN | apply below_drew1 | refine below_set ?_ GE136.out | refine below_set ?_ GE137.out) | exact HB.out)) hb)
      clear BK136
      clear BK137
      clear HB
      have BK136 := n0_
      have BK137 := n1_
      have HB := n2_
      clear n0_ n1_ n2_
      (try clear hb)
      (try clear hb2)
      (try clear hk)
      (try clear hi)
      refine hK.out _ _ ⟨(blk_cell BK136.out 0).trans rfl, (blk_cell BK136.out 1).trans rfl, (blk_cell BK136.out 2).trans rfl, (blk_cell BK136.out 3).trans rfl, (blk_cell BK136.out 4).trans rfl, (blk_cell BK136.out 5).trans rfl⟩ (fun hHeld => ?_)
      clear hK K
      refine norm_ (a' := ?_) ?_ ?_
      rotate_left
      · show Act.put _ (some 17) _ = _
        simp only [Act.put, List.setIfInBounds_toArray, List.set_cons_zero, List.set_cons_succ, i64_w, i32_w]
        rfl
      refine pure_ (i := 6) (N := some 18) (v := ?_) (a' := ?_) #[true, true, true, true, true, true, true, false, false] rfl rfl (any_of HT_.out (by kernel_rfl)) (fun _ _ _ h => h) (Or.inl ⟨by rfl, ?_⟩) ?_ ?_
      rotate_left
      · intro w'
        go_simp
        with_reducible rfl
      rotate_left
      · simp only [Act.put, List.setIfInBounds_toArray, List.set_cons_zero, List.set_cons_succ, i64_w, i32_w]
        rfl
      refine pure_ (i := 7) (N := some 19) (v := ?_) (a' := ?_) #[true, true, true, true, true, true, true, true, false] rfl rfl (any_of HT_.out (by kernel_rfl)) (fun _ _ _ h => h) (Or.inl ⟨by rfl, ?_⟩) ?_ ?_
      rotate_left
      · intro w'
        go_simp
        with_reducible rfl
      rotate_left
      · simp only [Act.put, List.setIfInBounds_toArray, List.set_cons_zero, List.set_cons_succ, i64_w, i32_w]
        rfl
      refine pure_ (i := 8) (N := some 20) (v := ?_) (a' := ?_) #[true, true, true, true, true, true, true, true, true] rfl rfl (any_of HT_.out (by kernel_rfl)) (fun _ _ _ h => h) (Or.inl ⟨by rfl, ?_⟩) ?_ ?_
      rotate_left
      · intro w'
        go_simp
        with_reducible rfl
      rotate_left
      · simp only [Act.put, List.setIfInBounds_toArray, List.set_cons_zero, List.set_cons_succ, i64_w, i32_w]
        rfl
      refine done_ (done_of HT_.out (by kernel_rfl)) ?_
      have hcz17_0 : w16.cell? ⟨gb136, 0, none⟩ = some (.int .i64 a0_0) := (blk_cell BK136.out 0).trans rfl
      have hcz17_1 : w16.cell? ⟨gb136, 1, none⟩ = some (.string a0_1) := (blk_cell BK136.out 1).trans rfl
      have hcz17_2 : w16.cell? ⟨gb136, 2, none⟩ = some (.string a0_2) := (blk_cell BK136.out 2).trans rfl
      have hcz17_3 : w16.cell? ⟨gb136, 3, none⟩ = some (.bool a0_3) := (blk_cell BK136.out 3).trans rfl
      have hcz17_4 : w16.cell? ⟨gb136, 4, none⟩ = some (.bool false) := (blk_cell BK136.out 4).trans rfl
      have hcz17_5 : w16.cell? ⟨gb136, 5, none⟩ = some (.int .i64 a0_5) := (blk_cell BK136.out 5).trans rfl
      have hfz17_0 := blk_frozen BK136.out 0
      have hfz17_1 := blk_frozen BK136.out 1
      have hfz17_2 := blk_frozen BK136.out 2
      have hfz17_3 := blk_frozen BK136.out 3
      have hfz17_4 := blk_frozen BK136.out 4
      have hfz17_5 := blk_frozen BK136.out 5
      have hcz18_0 : w16.cell? ⟨gb137, 0, none⟩ = some (.int .i64 0) := (blk_cell BK137.out 0).trans rfl
      have hcz18_1 : w16.cell? ⟨gb137, 1, none⟩ = some (.string (⟨#[]⟩ : ByteArray)) := (blk_cell BK137.out 1).trans rfl
      have hcz18_2 : w16.cell? ⟨gb137, 2, none⟩ = some (.string (⟨#[]⟩ : ByteArray)) := (blk_cell BK137.out 2).trans rfl
      have hcz18_3 : w16.cell? ⟨gb137, 3, none⟩ = some (.bool false) := (blk_cell BK137.out 3).trans rfl
      have hcz18_4 : w16.cell? ⟨gb137, 4, none⟩ = some (.bool false) := (blk_cell BK137.out 4).trans rfl
      have hcz18_5 : w16.cell? ⟨gb137, 5, none⟩ = some (.int .i64 0) := (blk_cell BK137.out 5).trans rfl
      have hfz18_0 := blk_frozen BK137.out 0
      have hfz18_1 := blk_frozen BK137.out 1
      have hfz18_2 := blk_frozen BK137.out 2
      have hfz18_3 := blk_frozen BK137.out 3
      have hfz18_4 := blk_frozen BK137.out 4
      have hfz18_5 := blk_frozen BK137.out 5
      try go_wp2
      refine bodyPost_ret (results_ct rfl _ _ gb137 41 #[.int .i64 a0_0, .string a0_1, .string a0_2, .bool a0_3, .bool false, .int .i64 a0_5] (0, 0) _ rfl (by (with_reducible repeat (first | refine blk_drewN ?_ _ | refine blk_drew ?_ | refine blk_alloc ?_ _)); refine blk_put (cs := #[.int .i64 a0_0, .string a0_1, .string a0_2, .bool a0_3, .bool false, .int .i64 0]) ?_ 5 _ rfl; (with_reducible repeat (first | refine blk_drewN ?_ _ | refine blk_drew ?_ | refine blk_alloc ?_ _)); refine blk_put (cs := #[.int .i64 a0_0, .string a0_1, .string a0_2, .bool a0_3, .bool false, .int .i64 0]) ?_ 4 _ rfl; (with_reducible repeat (first | refine blk_drewN ?_ _ | refine blk_drew ?_ | refine blk_alloc ?_ _)); refine blk_put (cs := #[.int .i64 a0_0, .string a0_1, .string a0_2, .bool false, .bool false, .int .i64 0]) ?_ 3 _ rfl; (with_reducible repeat (first | refine blk_drewN ?_ _ | refine blk_drew ?_ | refine blk_alloc ?_ _)); refine blk_put (cs := #[.int .i64 a0_0, .string a0_1, .string (⟨#[]⟩ : ByteArray), .bool false, .bool false, .int .i64 0]) ?_ 2 _ rfl; (with_reducible repeat (first | refine blk_drewN ?_ _ | refine blk_drew ?_ | refine blk_alloc ?_ _)); refine blk_put (cs := #[.int .i64 a0_0, .string (⟨#[]⟩ : ByteArray), .string (⟨#[]⟩ : ByteArray), .bool false, .bool false, .int .i64 0]) ?_ 1 _ rfl; (with_reducible repeat (first | refine blk_drewN ?_ _ | refine blk_drew ?_ | refine blk_alloc ?_ _)); refine blk_put (cs := #[.int .i64 0, .string (⟨#[]⟩ : ByteArray), .string (⟨#[]⟩ : ByteArray), .bool false, .bool false, .int .i64 0]) ?_ 0 _ rfl; (with_reducible repeat (first | refine blk_drewN ?_ _ | refine blk_drew ?_ | refine blk_alloc ?_ _)); exact BK137.out) Try.underlying41 rfl (by kernel_rfl)) rfl ?_
      exact ⟨by first | rfl | (simp [errW_none, errW_some] <;> rfl) | (simp [*, errW_none, errW_some] <;> rfl), by repeat (first | (with_reducible first | exact HB.out | apply below_alloc | apply pw_below_drewN | apply below_drew1 | refine below_set ?_ GE136.out | refine below_set ?_ GE137.out) | exact HB.out)⟩
    · rw [if_neg c10] at H
      have c10b0 : decide ((wrap64 (a0_0 - (t138.size : Int))) < (a1.size : Int)) = false := decide_eq_false c10
      clear c10
      replace H := Option.bind_eq_some_iff.mp H
      obtain ⟨⟨t139, t140, t141, t142, t143, t144, t145, t146⟩, A190, H⟩ := H
      replace H : (if 0 ≤ t145 then (if t145 ≤ (a1.size : Int) then (if t141.size + (a1.extract 0 (t145 : Int).toNat).size ≤ 9223372036854775807 then (if t146 = true then (some (t139, t140, t141 ++ (a1.extract 0 (t145 : Int).toNat), t142, t143, t144, 0)) else (some (t139, t140, t141 ++ (a1.extract 0 (t145 : Int).toNat), t142, t143, t144, 60))) else (none)) else (none)) else (none)) = some (r1, r2, r3, r4, r5, r6, r7) := H
      have A19 := Aside0.mk A190
      clear A190
      by_cases c20 : 0 ≤ t145
      · rw [if_pos c20] at H
        have c20b0 := eq_true c20
        have c20b1 : decide (0 ≤ t145) = true := decide_eq_true c20
        clear c20
        by_cases c21 : t145 ≤ (a1.size : Int)
        · rw [if_pos c21] at H
          have c21b0 := eq_true c21
          have c21b1 : decide (t145 ≤ (a1.size : Int)) = true := decide_eq_true c21
          clear c21
          by_cases c22 : t141.size + (a1.extract 0 (t145 : Int).toNat).size ≤ 9223372036854775807
          · rw [if_pos c22] at H
            have c22b0 := eq_true c22
            have c22b1 : decide (t141.size + (a1.extract 0 (t145 : Int).toNat).size ≤ 9223372036854775807) = true := decide_eq_true c22
            try have c22b2 : (9223372036854775807 < t141.size + (a1.extract 0 (t145 : Int).toNat).size) = False := eq_false (Nat.not_lt.2 c22)
            try have c22b3 : (9223372036854775807 < t141.size + t145.toNat) = False := eq_false (Nat.not_lt.2 (by have q_ := c22; rw [ByteArray.size_extract] at q_; have u_ : (t145 : Int) ≤ (a1.size : Int) := (by first | omega | exact of_eq_true (by assumption) | exact of_decide_eq_true (by assumption)); omega))
            by_cases c23 : t146 = true
            · subst c23
              have H1 : (some (t139, t140, t141 ++ (a1.extract 0 (t145 : Int).toNat), t142, t143, t144, 0)) = some (r1, r2, r3, r4, r5, r6, r7) := by rw [if_pos rfl] at H; exact H
              clear H
              have H := H1
              clear H1
              simp only [Option.some.injEq, Prod.mk.injEq] at H
              obtain ⟨rfl, rfl, rfl, rfl, rfl, rfl, rfl⟩ := H
              go_enter Try.func41, Try.ntmps41
              try go_wp2_with (first | ((with_reducible refine gate_dst (N := 2) rfl ?_); refine box_event ?hg (N := 2) ?hd (cs := #[.int .i64 a0_0, .string a0_1, .string a0_2, .bool a0_3, .bool false, .int .i64 a0_5]) (t := 41) ?hr ?_; (case hd => rfl); (case hg => rfl); (case hr => first | (go_simp; done) | (go_simp; rfl)); intro gb136 hg w24 hbox hb; have n0_ := Aside0.mk (below_step (by repeat (first | (with_reducible first | exact HB.out | apply below_alloc | apply pw_below_drewN | apply below_drew1) | exact HB.out)) hb); have n1_ := Aside0.mk (hbox); have n2_ := Aside0.mk ((by rw [hg]; exact (below_size (by repeat (first | (with_reducible first | exact HB.out | apply below_alloc | apply pw_below_drewN | apply below_drew1) | exact HB.out))) : w.heap.size ≤ gb136)); have n3_ := Aside0.mk ((by rw [hg]; exact (below_size (by repeat (first | (with_reducible first | exact HB.out | apply below_alloc | apply pw_below_drewN | apply below_drew1) | exact HB.out))) : w.heap.size ≤ gb136)); clear HB; have HB := n0_; have BK136 := n1_; have GW136 := n2_; have GE136 := n3_; clear n0_ n1_ n2_ n3_; clear hb hbox hg) | ((with_reducible refine gate_dst (N := 4) rfl ?_); refine box_event ?hg (N := 4) ?hd (cs := #[.int .i64 0, .string (⟨#[]⟩ : ByteArray), .string (⟨#[]⟩ : ByteArray), .bool false, .bool false, .int .i64 0]) (t := 41) ?hr ?_; (case hd => rfl); (case hg => rfl); (case hr => first | (go_simp; done) | (go_simp; rfl)); intro gb137 hg w25 hbox hb; have n0_ := Aside0.mk (blk_below (g := gb136) (o := .cells #[.int .i64 a0_0, .string a0_1, .string a0_2, .bool a0_3, .bool false, .int .i64 a0_5] 41 (0, 0)) (by (with_reducible repeat (first | refine blk_drewN ?_ _ | refine blk_drew ?_ | refine blk_alloc ?_ _)); exact BK136.out) hb); have n1_ := Aside0.mk (below_step (by repeat (first | (with_reducible first | exact HB.out | apply below_alloc | apply pw_below_drewN | apply below_drew1 | refine below_set ?_ GE136.out) | exact HB.out)) hb); have n2_ := Aside0.mk (hbox); have n3_ := Aside0.mk ((by rw [hg]; exact (below_size (by repeat (first | (with_reducible first | exact HB.out | apply below_alloc | apply pw_below_drewN | apply below_drew1 | refine below_set ?_ GE136.out) | exact HB.out))) : w.heap.size ≤ gb137)); have n4_ := Aside0.mk ((by rw [hg]; exact (below_size (by repeat (first | (with_reducible first | exact HB.out | apply below_alloc | apply pw_below_drewN | apply below_drew1 | refine below_set ?_ GE136.out) | exact HB.out))) : w.heap.size ≤ gb137)); have n5_ := Aside0.mk ((by rw [hg]; exact Nat.ne_of_lt (blk_lt (g := gb136) (o := .cells #[.int .i64 a0_0, .string a0_1, .string a0_2, .bool a0_3, .bool false, .int .i64 a0_5] 41 (0, 0)) (by (with_reducible repeat (first | refine blk_drewN ?_ _ | refine blk_drew ?_ | refine blk_alloc ?_ _)); exact BK136.out)) : gb136 ≠ gb137)); have n6_ := Aside0.mk ((by rw [hg]; exact Nat.ne_of_gt (blk_lt (g := gb136) (o := .cells #[.int .i64 a0_0, .string a0_1, .string a0_2, .bool a0_3, .bool false, .int .i64 a0_5] 41 (0, 0)) (by (with_reducible repeat (first | refine blk_drewN ?_ _ | refine blk_drew ?_ | refine blk_alloc ?_ _)); exact BK136.out)) : gb137 ≠ gb136)); clear BK136; clear HB; have BK136 := n0_; have HB := n1_; have BK137 := n2_; have GW137 := n3_; have GE137 := n4_; have NB136_137 := n5_; have NB137_136 := n6_; clear n0_ n1_ n2_ n3_ n4_ n5_ n6_; clear hb hbox hg; have hnb26 := NB136_137.out; have hnc26 := NB137_136.out; have hcz27_0 : w25.cell? ⟨gb136, 0, none⟩ = some (.int .i64 a0_0) := (blk_cell BK136.out 0).trans rfl; have hcz27_1 : w25.cell? ⟨gb136, 1, none⟩ = some (.string a0_1) := (blk_cell BK136.out 1).trans rfl; have hcz27_2 : w25.cell? ⟨gb136, 2, none⟩ = some (.string a0_2) := (blk_cell BK136.out 2).trans rfl; have hcz27_3 : w25.cell? ⟨gb136, 3, none⟩ = some (.bool a0_3) := (blk_cell BK136.out 3).trans rfl; have hcz27_4 : w25.cell? ⟨gb136, 4, none⟩ = some (.bool false) := (blk_cell BK136.out 4).trans rfl; have hcz27_5 : w25.cell? ⟨gb136, 5, none⟩ = some (.int .i64 a0_5) := (blk_cell BK136.out 5).trans rfl; have hfz27_0 := blk_frozen BK136.out 0; have hfz27_1 := blk_frozen BK136.out 1; have hfz27_2 := blk_frozen BK136.out 2; have hfz27_3 := blk_frozen BK136.out 3; have hfz27_4 := blk_frozen BK136.out 4; have hfz27_5 := blk_frozen BK136.out 5))
              have n0_ := Aside0.mk (blk_drew BK136.out)
              have n1_ := Aside0.mk (blk_drew BK137.out)
              have n2_ := Aside0.mk (below_drew1 HB.out)
              clear BK136
              clear BK137
              clear HB
              have BK136 := n0_
              have BK137 := n1_
              have HB := n2_
              clear n0_ n1_ n2_
              refine start_ (n := 9) (S := fun w' => w'.cell? ⟨gb136, 0, none⟩ = some (.int .i64 a0_0) ∧ w'.cell? ⟨gb136, 1, none⟩ = some (.string a0_1) ∧ w'.cell? ⟨gb136, 2, none⟩ = some (.string a0_2) ∧ w'.cell? ⟨gb136, 3, none⟩ = some (.bool a0_3) ∧ w'.cell? ⟨gb136, 4, none⟩ = some (.bool false) ∧ w'.cell? ⟨gb136, 5, none⟩ = some (.int .i64 a0_5)) (ds := []) #[false, false, false, false, false, false, false, false, false] (by kernel_rfl) rfl rfl ⟨(blk_cell BK136.out 0).trans rfl, (blk_cell BK136.out 1).trans rfl, (blk_cell BK136.out 2).trans rfl, (blk_cell BK136.out 3).trans rfl, (blk_cell BK136.out 4).trans rfl, (blk_cell BK136.out 5).trans rfl⟩ (fun hHeld => ?_); refine with_tabW contraref06_Write.tab3 contraref06_Write.bits3 (fun HT_ HW_ => ?_)
              generalize w25.drew = w28 at BK136 BK137 HB hHeld ⊢
              refine pure_ (i := 0) (N := some 12) (v := ?_) (a' := ?_) #[true, false, false, false, false, false, false, false, false] rfl rfl (any_of HT_.out (by kernel_rfl)) (fun _ _ _ h => h) (Or.inl ⟨by rfl, ?_⟩) ?_ ?_
              rotate_left
              · intro w'
                go_simp
                with_reducible rfl
              rotate_left
              · simp only [Act.put, List.setIfInBounds_toArray, List.set_cons_zero, List.set_cons_succ, i64_w, i32_w]
                rfl
              refine pure_ (i := 1) (N := some 13) (v := ?_) (a' := ?_) #[true, true, false, false, false, false, false, false, false] rfl rfl (any_of HT_.out (by kernel_rfl)) (fun _ _ _ h => h) (Or.inl ⟨by rfl, ?_⟩) ?_ ?_
              rotate_left
              · intro w'
                go_simp
                with_reducible rfl
              rotate_left
              · simp only [Act.put, List.setIfInBounds_toArray, List.set_cons_zero, List.set_cons_succ, i64_w, i32_w]
                rfl
              refine pure_ (i := 2) (N := some 14) (v := ?_) (a' := ?_) #[true, true, true, false, false, false, false, false, false] rfl rfl (any_of HT_.out (by kernel_rfl)) (fun _ _ _ h => h) (Or.inl ⟨by rfl, ?_⟩) ?_ ?_
              rotate_left
              · intro w'
                go_simp
                with_reducible rfl
              rotate_left
              · simp only [Act.put, List.setIfInBounds_toArray, List.set_cons_zero, List.set_cons_succ, i64_w, i32_w]
                rfl
              refine take_ (i := 3) (N := some 15) (v := ?_) (a' := ?_) #[true, true, true, true, false, false, false, false, false] rfl rfl (take_ofW HT_.out HW_.out (by kernel_rfl)) (fun _ _ _ h => h) (Or.inl ⟨by rfl, ?_⟩) hHeld ?_ ?_
              rotate_left
              · rintro w' ⟨s0, s1, s2, s3, s4, s5⟩
                go_simp
                with_reducible rfl
              rotate_left
              · simp only [Act.put, List.setIfInBounds_toArray, List.set_cons_zero, List.set_cons_succ, i64_w, i32_w]
                rfl
              refine take_ (i := 4) (N := some 16) (v := ?_) (a' := ?_) #[true, true, true, true, true, false, false, false, false] rfl rfl (take_ofW HT_.out HW_.out (by kernel_rfl)) (fun _ _ _ h => h) (Or.inl ⟨by rfl, ?_⟩) hHeld ?_ ?_
              rotate_left
              · rintro w' ⟨s0, s1, s2, s3, s4, s5⟩
                go_simp
                with_reducible rfl
              rotate_left
              · simp only [Act.put, List.setIfInBounds_toArray, List.set_cons_zero, List.set_cons_succ, i64_w, i32_w]
                rfl
              refine one_ (i := 5) (N := some 17) #[true, true, true, true, true, true, false, false, false] rfl rfl (one_of HT_.out (by kernel_rfl)) (by decide) (fun K hK => ?_)
              refine goes_ Try.func53 (by kernel_rfl) rfl #[.agg #[.int .i64 a0_0, .string a0_1, .string a0_2, .bool a0_3, .bool false, .int .i64 a0_5]] (by rfl) rfl rfl (by (try simp only [List.map_toArray, List.map_cons, List.map_nil]); first | done | rfl | (simp only [List.length_drop, List.length_take]; rfl)) ?_
              with_reducible refine (contraref06_All.calls a0_0 a0_1 a0_2 a0_3 false a0_5 t138 _ A9.out).mono ?_
              rintro e w29 ⟨rfl, hb⟩
              refine ⟨_, rfl, ?_⟩
              have n0_ := Aside0.mk (blk_below (g := gb136) (o := .cells #[.int .i64 a0_0, .string a0_1, .string a0_2, .bool a0_3, .bool false, .int .i64 a0_5] 41 (0, 0)) (by (with_reducible repeat (first | refine blk_drewN ?_ _ | refine blk_drew ?_ | refine blk_alloc ?_ _)); exact BK136.out) hb)
              have n1_ := Aside0.mk (blk_below (g := gb137) (o := .cells #[.int .i64 0, .string (⟨#[]⟩ : ByteArray), .string (⟨#[]⟩ : ByteArray), .bool false, .bool false, .int .i64 0] 41 (0, 0)) (by (with_reducible repeat (first | refine blk_drewN ?_ _ | refine blk_drew ?_ | refine blk_alloc ?_ _)); exact BK137.out) hb)
              have n2_ := Aside0.mk (below_step (by repeat (first | (with_reducible first | exact HB.out | apply below_alloc | apply pw_below_drewN | apply below_drew1 | refine below_set ?_ GE136.out | refine below_set ?_ GE137.out) | exact HB.out)) hb)
              clear BK136
              clear BK137
              clear HB
              have BK136 := n0_
              have BK137 := n1_
              have HB := n2_
              clear n0_ n1_ n2_
              (try clear hb)
              (try clear hb2)
              (try clear hk)
              (try clear hi)
              refine hK.out _ _ ⟨(blk_cell BK136.out 0).trans rfl, (blk_cell BK136.out 1).trans rfl, (blk_cell BK136.out 2).trans rfl, (blk_cell BK136.out 3).trans rfl, (blk_cell BK136.out 4).trans rfl, (blk_cell BK136.out 5).trans rfl⟩ (fun hHeld => ?_)
              clear hK K
              refine norm_ (a' := ?_) ?_ ?_
              rotate_left
              · show Act.put _ (some 17) _ = _
                simp only [Act.put, List.setIfInBounds_toArray, List.set_cons_zero, List.set_cons_succ, i64_w, i32_w]
                rfl
              refine pure_ (i := 6) (N := some 18) (v := ?_) (a' := ?_) #[true, true, true, true, true, true, true, false, false] rfl rfl (any_of HT_.out (by kernel_rfl)) (fun _ _ _ h => h) (Or.inl ⟨by rfl, ?_⟩) ?_ ?_
              rotate_left
              · intro w'
                go_simp
                with_reducible rfl
              rotate_left
              · simp only [Act.put, List.setIfInBounds_toArray, List.set_cons_zero, List.set_cons_succ, i64_w, i32_w]
                rfl
              refine pure_ (i := 7) (N := some 19) (v := ?_) (a' := ?_) #[true, true, true, true, true, true, true, true, false] rfl rfl (any_of HT_.out (by kernel_rfl)) (fun _ _ _ h => h) (Or.inl ⟨by rfl, ?_⟩) ?_ ?_
              rotate_left
              · intro w'
                go_simp
                with_reducible rfl
              rotate_left
              · simp only [Act.put, List.setIfInBounds_toArray, List.set_cons_zero, List.set_cons_succ, i64_w, i32_w]
                rfl
              refine pure_ (i := 8) (N := some 20) (v := ?_) (a' := ?_) #[true, true, true, true, true, true, true, true, true] rfl rfl (any_of HT_.out (by kernel_rfl)) (fun _ _ _ h => h) (Or.inl ⟨by rfl, ?_⟩) ?_ ?_
              rotate_left
              · intro w'
                go_simp
                with_reducible rfl
              rotate_left
              · simp only [Act.put, List.setIfInBounds_toArray, List.set_cons_zero, List.set_cons_succ, i64_w, i32_w]
                rfl
              refine done_ (done_of HT_.out (by kernel_rfl)) ?_
              have hcz30_0 : w29.cell? ⟨gb136, 0, none⟩ = some (.int .i64 a0_0) := (blk_cell BK136.out 0).trans rfl
              have hcz30_1 : w29.cell? ⟨gb136, 1, none⟩ = some (.string a0_1) := (blk_cell BK136.out 1).trans rfl
              have hcz30_2 : w29.cell? ⟨gb136, 2, none⟩ = some (.string a0_2) := (blk_cell BK136.out 2).trans rfl
              have hcz30_3 : w29.cell? ⟨gb136, 3, none⟩ = some (.bool a0_3) := (blk_cell BK136.out 3).trans rfl
              have hcz30_4 : w29.cell? ⟨gb136, 4, none⟩ = some (.bool false) := (blk_cell BK136.out 4).trans rfl
              have hcz30_5 : w29.cell? ⟨gb136, 5, none⟩ = some (.int .i64 a0_5) := (blk_cell BK136.out 5).trans rfl
              have hfz30_0 := blk_frozen BK136.out 0
              have hfz30_1 := blk_frozen BK136.out 1
              have hfz30_2 := blk_frozen BK136.out 2
              have hfz30_3 := blk_frozen BK136.out 3
              have hfz30_4 := blk_frozen BK136.out 4
              have hfz30_5 := blk_frozen BK136.out 5
              try go_wp2_with (first | ((with_reducible refine gate_callee (f := 54) rfl ?_); refine goesL_ (some 26) rfl rfl Try.func54 (by kernel_rfl) rfl #[.agg #[.int .i64 a0_0, .string a0_1, .string a0_2, .bool a0_3, .bool false, .int .i64 a0_5], .int .i64 (a1.size : Int)] rfl (by (try simp only [List.map_toArray, List.map_cons, List.map_nil]); first | done | rfl | (simp only [List.length_drop, List.length_take]; rfl)) ?_; (with_reducible refine (contraref06_burn.calls a0_0 a0_1 a0_2 a0_3 false a0_5 (a1.size : Int) t139 t140 t141 t142 t143 t144 t145 true _ A19.out).mono ?_); rintro e w31 ⟨rfl, hb⟩; refine ⟨_, rfl, ?_⟩; have n0_ := Aside0.mk (blk_below (g := gb136) (o := .cells #[.int .i64 a0_0, .string a0_1, .string a0_2, .bool a0_3, .bool false, .int .i64 a0_5] 41 (0, 0)) (by (with_reducible repeat (first | refine blk_drewN ?_ _ | refine blk_drew ?_ | refine blk_alloc ?_ _)); exact BK136.out) hb); have n1_ := Aside0.mk (blk_below (g := gb137) (o := .cells #[.int .i64 0, .string (⟨#[]⟩ : ByteArray), .string (⟨#[]⟩ : ByteArray), .bool false, .bool false, .int .i64 0] 41 (0, 0)) (by (with_reducible repeat (first | refine blk_drewN ?_ _ | refine blk_drew ?_ | refine blk_alloc ?_ _)); exact BK137.out) hb); have n2_ := Aside0.mk (below_step (by repeat (first | (with_reducible first | exact HB.out | apply below_alloc | apply pw_below_drewN | apply below_drew1 | refine below_set ?_ GE136.out | refine below_set ?_ GE137.out) | exact HB.out)) hb); clear BK136; clear BK137; clear HB; have BK136 := n0_; have BK137 := n1_; have HB := n2_; clear n0_ n1_ n2_; (try clear hb); (try clear hb2); (try clear hk); (try clear hi)) | ((with_reducible refine gate_dst (N := 6) rfl ?_); refine box_event ?hg (N := 6) ?hd (cs := #[.int .i64 0, .string (⟨#[]⟩ : ByteArray), .string (⟨#[]⟩ : ByteArray), .bool false, .bool false, .int .i64 0]) (t := 41) ?hr ?_; (case hd => rfl); (case hg => rfl); (case hr => first | (go_simp; done) | (go_simp; rfl)); intro gb147 hg w32 hbox hb; have n0_ := Aside0.mk (blk_below (g := gb136) (o := .cells #[.int .i64 a0_0, .string a0_1, .string a0_2, .bool a0_3, .bool false, .int .i64 a0_5] 41 (0, 0)) (by (with_reducible repeat (first | refine blk_drewN ?_ _ | refine blk_drew ?_ | refine blk_alloc ?_ _)); exact BK136.out) hb); have n1_ := Aside0.mk (blk_below (g := gb137) (o := .cells #[.int .i64 0, .string (⟨#[]⟩ : ByteArray), .string (⟨#[]⟩ : ByteArray), .bool false, .bool false, .int .i64 0] 41 (0, 0)) (by (with_reducible repeat (first | refine blk_drewN ?_ _ | refine blk_drew ?_ | refine blk_alloc ?_ _)); exact BK137.out) hb); have n2_ := Aside0.mk (below_step (by repeat (first | (with_reducible first | exact HB.out | apply below_alloc | apply pw_below_drewN | apply below_drew1 | refine below_set ?_ GE136.out | refine below_set ?_ GE137.out) | exact HB.out)) hb); have n3_ := Aside0.mk (hbox); have n4_ := Aside0.mk ((by rw [hg]; exact (below_size (by repeat (first | (with_reducible first | exact HB.out | apply below_alloc | apply pw_below_drewN | apply below_drew1 | refine below_set ?_ GE136.out | refine below_set ?_ GE137.out) | exact HB.out))) : w.heap.size ≤ gb147)); have n5_ := Aside0.mk ((by rw [hg]; exact (below_size (by repeat (first | (with_reducible first | exact HB.out | apply below_alloc | apply pw_below_drewN | apply below_drew1 | refine below_set ?_ GE136.out | refine below_set ?_ GE137.out) | exact HB.out))) : w.heap.size ≤ gb147)); have n6_ := Aside0.mk ((by rw [hg]; exact Nat.ne_of_lt (blk_lt (g := gb136) (o := .cells #[.int .i64 a0_0, .string a0_1, .string a0_2, .bool a0_3, .bool false, .int .i64 a0_5] 41 (0, 0)) (by (with_reducible repeat (first | refine blk_drewN ?_ _ | refine blk_drew ?_ | refine blk_alloc ?_ _)); exact BK136.out)) : gb136 ≠ gb147)); have n7_ := Aside0.mk ((by rw [hg]; exact Nat.ne_of_gt (blk_lt (g := gb136) (o := .cells #[.int .i64 a0_0, .string a0_1, .string a0_2, .bool a0_3, .bool false, .int .i64 a0_5] 41 (0, 0)) (by (with_reducible repeat (first | refine blk_drewN ?_ _ | refine blk_drew ?_ | refine blk_alloc ?_ _)); exact BK136.out)) : gb147 ≠ gb136)); have n8_ := Aside0.mk ((by rw [hg]; exact Nat.ne_of_lt (blk_lt (g := gb137) (o := .cells #[.int .i64 0, .string (⟨#[]⟩ : ByteArray), .string (⟨#[]⟩ : ByteArray), .bool false, .bool false, .int .i64 0] 41 (0, 0)) (by (with_reducible repeat (first | refine blk_drewN ?_ _ | refine blk_drew ?_ | refine blk_alloc ?_ _)); exact BK137.out)) : gb137 ≠ gb147)); have n9_ := Aside0.mk ((by rw [hg]; exact Nat.ne_of_gt (blk_lt (g := gb137) (o := .cells #[.int .i64 0, .string (⟨#[]⟩ : ByteArray), .string (⟨#[]⟩ : ByteArray), .bool false, .bool false, .int .i64 0] 41 (0, 0)) (by (with_reducible repeat (first | refine blk_drewN ?_ _ | refine blk_drew ?_ | refine blk_alloc ?_ _)); exact BK137.out)) : gb147 ≠ gb137)); clear BK136; clear BK137; clear HB; have BK136 := n0_; have BK137 := n1_; have HB := n2_; have BK147 := n3_; have GW147 := n4_; have GE147 := n5_; have NB136_147 := n6_; have NB147_136 := n7_; have NB137_147 := n8_; have NB147_137 := n9_; clear n0_ n1_ n2_ n3_ n4_ n5_ n6_ n7_ n8_ n9_; clear hb hbox hg; have hnb33 := NB147_136.out; have hnc33 := NB136_147.out; have hnb34 := NB147_137.out; have hnc34 := NB137_147.out; have hcz35_0 : w32.cell? ⟨gb147, 0, none⟩ = some (.int .i64 0) := (blk_cell BK147.out 0).trans rfl; have hcz35_1 : w32.cell? ⟨gb147, 1, none⟩ = some (.string (⟨#[]⟩ : ByteArray)) := (blk_cell BK147.out 1).trans rfl; have hcz35_2 : w32.cell? ⟨gb147, 2, none⟩ = some (.string (⟨#[]⟩ : ByteArray)) := (blk_cell BK147.out 2).trans rfl; have hcz35_3 : w32.cell? ⟨gb147, 3, none⟩ = some (.bool false) := (blk_cell BK147.out 3).trans rfl; have hcz35_4 : w32.cell? ⟨gb147, 4, none⟩ = some (.bool false) := (blk_cell BK147.out 4).trans rfl; have hcz35_5 : w32.cell? ⟨gb147, 5, none⟩ = some (.int .i64 0) := (blk_cell BK147.out 5).trans rfl; have hfz35_0 := blk_frozen BK147.out 0; have hfz35_1 := blk_frozen BK147.out 1; have hfz35_2 := blk_frozen BK147.out 2; have hfz35_3 := blk_frozen BK147.out 3; have hfz35_4 := blk_frozen BK147.out 4; have hfz35_5 := blk_frozen BK147.out 5))
              have n0_ : Aside0 (((((((w32.setCell ⟨gb147, 0, none⟩ (.int .i64 t139)).setCell ⟨gb147, 1, none⟩ (.string t140)).setCell ⟨gb147, 2, none⟩ (.string t141)).setCell ⟨gb147, 3, none⟩ (.bool t142)).setCell ⟨gb147, 4, none⟩ (.bool t143)).setCell ⟨gb147, 5, none⟩ (.int .i64 t144)).heap[gb136]? = some (.cells #[.int .i64 a0_0, .string a0_1, .string a0_2, .bool a0_3, .bool false, .int .i64 a0_5] 41 (0, 0))) := ⟨by (with_reducible repeat (first | refine blk_drewN ?_ _ | refine blk_drew ?_ | refine blk_alloc ?_ _)); refine blk_far ?_ NB136_147.out _; (with_reducible repeat (first | refine blk_drewN ?_ _ | refine blk_drew ?_ | refine blk_alloc ?_ _)); refine blk_far ?_ NB136_147.out _; (with_reducible repeat (first | refine blk_drewN ?_ _ | refine blk_drew ?_ | refine blk_alloc ?_ _)); refine blk_far ?_ NB136_147.out _; (with_reducible repeat (first | refine blk_drewN ?_ _ | refine blk_drew ?_ | refine blk_alloc ?_ _)); refine blk_far ?_ NB136_147.out _; (with_reducible repeat (first | refine blk_drewN ?_ _ | refine blk_drew ?_ | refine blk_alloc ?_ _)); refine blk_far ?_ NB136_147.out _; (with_reducible repeat (first | refine blk_drewN ?_ _ | refine blk_drew ?_ | refine blk_alloc ?_ _)); refine blk_far ?_ NB136_147.out _; (with_reducible repeat (first | refine blk_drewN ?_ _ | refine blk_drew ?_ | refine blk_alloc ?_ _)); exact BK136.out⟩
              have n1_ : Aside0 (((((((w32.setCell ⟨gb147, 0, none⟩ (.int .i64 t139)).setCell ⟨gb147, 1, none⟩ (.string t140)).setCell ⟨gb147, 2, none⟩ (.string t141)).setCell ⟨gb147, 3, none⟩ (.bool t142)).setCell ⟨gb147, 4, none⟩ (.bool t143)).setCell ⟨gb147, 5, none⟩ (.int .i64 t144)).heap[gb137]? = some (.cells #[.int .i64 0, .string (⟨#[]⟩ : ByteArray), .string (⟨#[]⟩ : ByteArray), .bool false, .bool false, .int .i64 0] 41 (0, 0))) := ⟨by (with_reducible repeat (first | refine blk_drewN ?_ _ | refine blk_drew ?_ | refine blk_alloc ?_ _)); refine blk_far ?_ NB137_147.out _; (with_reducible repeat (first | refine blk_drewN ?_ _ | refine blk_drew ?_ | refine blk_alloc ?_ _)); refine blk_far ?_ NB137_147.out _; (with_reducible repeat (first | refine blk_drewN ?_ _ | refine blk_drew ?_ | refine blk_alloc ?_ _)); refine blk_far ?_ NB137_147.out _; (with_reducible repeat (first | refine blk_drewN ?_ _ | refine blk_drew ?_ | refine blk_alloc ?_ _)); refine blk_far ?_ NB137_147.out _; (with_reducible repeat (first | refine blk_drewN ?_ _ | refine blk_drew ?_ | refine blk_alloc ?_ _)); refine blk_far ?_ NB137_147.out _; (with_reducible repeat (first | refine blk_drewN ?_ _ | refine blk_drew ?_ | refine blk_alloc ?_ _)); refine blk_far ?_ NB137_147.out _; (with_reducible repeat (first | refine blk_drewN ?_ _ | refine blk_drew ?_ | refine blk_alloc ?_ _)); exact BK137.out⟩
              have n2_ : Aside0 (((((((w32.setCell ⟨gb147, 0, none⟩ (.int .i64 t139)).setCell ⟨gb147, 1, none⟩ (.string t140)).setCell ⟨gb147, 2, none⟩ (.string t141)).setCell ⟨gb147, 3, none⟩ (.bool t142)).setCell ⟨gb147, 4, none⟩ (.bool t143)).setCell ⟨gb147, 5, none⟩ (.int .i64 t144)).heap[gb147]? = some (.cells #[.int .i64 t139, .string t140, .string t141, .bool t142, .bool t143, .int .i64 t144] 41 (0, 0))) := ⟨by (with_reducible repeat (first | refine blk_drewN ?_ _ | refine blk_drew ?_ | refine blk_alloc ?_ _)); refine blk_put (cs := #[.int .i64 t139, .string t140, .string t141, .bool t142, .bool t143, .int .i64 0]) ?_ 5 _ rfl; (with_reducible repeat (first | refine blk_drewN ?_ _ | refine blk_drew ?_ | refine blk_alloc ?_ _)); refine blk_put (cs := #[.int .i64 t139, .string t140, .string t141, .bool t142, .bool false, .int .i64 0]) ?_ 4 _ rfl; (with_reducible repeat (first | refine blk_drewN ?_ _ | refine blk_drew ?_ | refine blk_alloc ?_ _)); refine blk_put (cs := #[.int .i64 t139, .string t140, .string t141, .bool false, .bool false, .int .i64 0]) ?_ 3 _ rfl; (with_reducible repeat (first | refine blk_drewN ?_ _ | refine blk_drew ?_ | refine blk_alloc ?_ _)); refine blk_put (cs := #[.int .i64 t139, .string t140, .string (⟨#[]⟩ : ByteArray), .bool false, .bool false, .int .i64 0]) ?_ 2 _ rfl; (with_reducible repeat (first | refine blk_drewN ?_ _ | refine blk_drew ?_ | refine blk_alloc ?_ _)); refine blk_put (cs := #[.int .i64 t139, .string (⟨#[]⟩ : ByteArray), .string (⟨#[]⟩ : ByteArray), .bool false, .bool false, .int .i64 0]) ?_ 1 _ rfl; (with_reducible repeat (first | refine blk_drewN ?_ _ | refine blk_drew ?_ | refine blk_alloc ?_ _)); refine blk_put (cs := #[.int .i64 0, .string (⟨#[]⟩ : ByteArray), .string (⟨#[]⟩ : ByteArray), .bool false, .bool false, .int .i64 0]) ?_ 0 _ rfl; (with_reducible repeat (first | refine blk_drewN ?_ _ | refine blk_drew ?_ | refine blk_alloc ?_ _)); exact BK147.out⟩
              have n3_ : Aside0 (Below w.heap.size w ((((((w32.setCell ⟨gb147, 0, none⟩ (.int .i64 t139)).setCell ⟨gb147, 1, none⟩ (.string t140)).setCell ⟨gb147, 2, none⟩ (.string t141)).setCell ⟨gb147, 3, none⟩ (.bool t142)).setCell ⟨gb147, 4, none⟩ (.bool t143)).setCell ⟨gb147, 5, none⟩ (.int .i64 t144))) := ⟨by repeat (first | (with_reducible first | exact HB.out | apply below_alloc | apply pw_below_drewN | apply below_drew1 | refine below_set ?_ GE136.out | refine below_set ?_ GE137.out | refine below_set ?_ GE147.out) | exact HB.out)⟩
              (try clear BK136)
              (try clear BK137)
              (try clear BK147)
              (try clear HB)
              generalize ((((((w32.setCell ⟨gb147, 0, none⟩ (.int .i64 t139)).setCell ⟨gb147, 1, none⟩ (.string t140)).setCell ⟨gb147, 2, none⟩ (.string t141)).setCell ⟨gb147, 3, none⟩ (.bool t142)).setCell ⟨gb147, 4, none⟩ (.bool t143)).setCell ⟨gb147, 5, none⟩ (.int .i64 t144)) = w36 at n0_ n1_ n2_ n3_ ⊢
              have BK136 := n0_
              have BK137 := n1_
              have BK147 := n2_
              have HB := n3_
              clear n0_ n1_ n2_ n3_
              have n0_ := Aside0.mk (blk_drew BK136.out)
              have n1_ := Aside0.mk (blk_drew BK137.out)
              have n2_ := Aside0.mk (blk_drew BK147.out)
              have n3_ := Aside0.mk (below_drew1 HB.out)
              clear BK136
              clear BK137
              clear BK147
              clear HB
              have BK136 := n0_
              have BK137 := n1_
              have BK147 := n2_
              have HB := n3_
              clear n0_ n1_ n2_ n3_
              refine start_ (n := 8) (S := fun w' => w'.cell? ⟨gb147, 0, none⟩ = some (.int .i64 t139) ∧ w'.cell? ⟨gb147, 1, none⟩ = some (.string t140) ∧ w'.cell? ⟨gb147, 2, none⟩ = some (.string t141) ∧ w'.cell? ⟨gb147, 3, none⟩ = some (.bool t142) ∧ w'.cell? ⟨gb147, 4, none⟩ = some (.bool t143) ∧ w'.cell? ⟨gb147, 5, none⟩ = some (.int .i64 t144)) (ds := [7]) #[false, false, false, false, false, false, false, false] (by kernel_rfl) rfl rfl ⟨(blk_cell BK147.out 0).trans rfl, (blk_cell BK147.out 1).trans rfl, (blk_cell BK147.out 2).trans rfl, (blk_cell BK147.out 3).trans rfl, (blk_cell BK147.out 4).trans rfl, (blk_cell BK147.out 5).trans rfl⟩ (fun hHeld => ?_); refine with_tabW contraref06_Write.tab6 contraref06_Write.bits6 (fun HT_ HW_ => ?_)
              generalize w36.drew = w37 at BK136 BK137 BK147 HB hHeld ⊢
              refine pure_ (i := 0) (N := some 30) (v := ?_) (a' := ?_) #[true, false, false, false, false, false, false, false] rfl rfl (any_of HT_.out (by kernel_rfl)) (fun _ _ _ h => h) (Or.inl ⟨by rfl, ?_⟩) ?_ ?_
              rotate_left
              · intro w'
                go_simp
                with_reducible rfl
              rotate_left
              · simp only [Act.put, List.setIfInBounds_toArray, List.set_cons_zero, List.set_cons_succ, i64_w, i32_w]
                rfl
              refine pure_ (i := 2) (N := some 32) (v := ?_) (a' := ?_) #[true, false, true, false, false, false, false, false] rfl rfl (any_of HT_.out (by kernel_rfl)) (fun _ _ _ h => h) (Or.inl ⟨by rfl, ?_⟩) ?_ ?_
              rotate_left
              · intro w'
                go_simp
                with_reducible rfl
              rotate_left
              · simp only [Act.put, List.setIfInBounds_toArray, List.set_cons_zero, List.set_cons_succ, i64_w, i32_w]
                rfl
              refine pure_ (i := 3) (N := some 33) (v := ?_) (a' := ?_) #[true, false, true, true, false, false, false, false] rfl rfl (any_of HT_.out (by kernel_rfl)) (fun _ _ _ h => h) (Or.inl ⟨by rfl, ?_⟩) ?_ ?_
              rotate_left
              · intro w'
                go_simp
                with_reducible rfl
              rotate_left
              · simp only [Act.put, List.setIfInBounds_toArray, List.set_cons_zero, List.set_cons_succ, i64_w, i32_w]
                rfl
              refine pure_ (i := 4) (N := some 34) (v := ?_) (a' := ?_) #[true, false, true, true, true, false, false, false] rfl rfl (any_of HT_.out (by kernel_rfl)) (fun _ _ _ h => h) (Or.inl ⟨by rfl, ?_⟩) ?_ ?_
              rotate_left
              · intro w'
                go_simp
                with_reducible rfl
              rotate_left
              · simp only [Act.put, List.setIfInBounds_toArray, List.set_cons_zero, List.set_cons_succ, i64_w, i32_w]
                rfl
              refine take_ (i := 1) (N := some 31) (v := ?_) (a' := ?_) #[true, true, true, true, true, false, false, false] rfl rfl (take_ofW HT_.out HW_.out (by kernel_rfl)) (fun _ _ _ h => h) (Or.inl ⟨by rfl, ?_⟩) hHeld ?_ ?_
              rotate_left
              · rintro w' ⟨s0, s1, s2, s3, s4, s5⟩
                go_simp
                with_reducible rfl
              rotate_left
              · simp only [Act.put, List.setIfInBounds_toArray, List.set_cons_zero, List.set_cons_succ, i64_w, i32_w]
                rfl
              refine pure_ (i := 5) (N := some 35) (v := ?_) (a' := ?_) #[true, true, true, true, true, true, false, false] rfl rfl (any_of HT_.out (by kernel_rfl)) (fun _ _ _ h => h) (Or.inl ⟨by rfl, ?_⟩) ?_ ?_
              rotate_left
              · intro w'
                go_simp
                with_reducible rfl
              rotate_left
              · simp only [Act.put, List.setIfInBounds_toArray, List.set_cons_zero, List.set_cons_succ, i64_w, i32_w]
                rfl
              refine pure_ (i := 6) (N := some 36) (v := ?_) (a' := ?_) #[true, true, true, true, true, true, true, false] rfl rfl (any_of HT_.out (by kernel_rfl)) (fun _ _ _ h => h) (Or.inl ⟨by rfl, ?_⟩) ?_ ?_
              rotate_left
              · intro w'
                go_simp
                with_reducible rfl
              rotate_left
              · simp only [Act.put, List.setIfInBounds_toArray, List.set_cons_zero, List.set_cons_succ, i64_w, i32_w]
                rfl
              refine last_ (i := 7) (N := none) #[true, true, true, true, true, true, true, true] rfl rfl (one_of HT_.out (by kernel_rfl)) (by decide) (fun K hK => ?_)
              have hs38 : w37.cell? ⟨gb147, 2, none⟩ = some (.string t141) := (blk_cell BK147.out 2).trans rfl
              have hfs38 := blk_frozen BK147.out 2
              have hns38_0 := NB136_147.out
              have hns38_1 := NB137_147.out
              have hms38_0 := NB147_136.out
              have hms38_1 := NB147_137.out
              refine skip_ (w1 := ?_) (by rfl) rfl ?_ ?_
              rotate_left
              · go_simp
                rfl
              refine hK.out _ _ ?_
              clear hK K
              refine done_ (done_of HT_.out (by kernel_rfl)) ?_
              have hcz39_0 : w37.cell? ⟨gb147, 0, none⟩ = some (.int .i64 t139) := (blk_cell BK147.out 0).trans rfl
              have hcz39_1 : w37.cell? ⟨gb147, 1, none⟩ = some (.string t140) := (blk_cell BK147.out 1).trans rfl
              have hcz39_2 : w37.cell? ⟨gb147, 2, none⟩ = some (.string t141) := (blk_cell BK147.out 2).trans rfl
              have hcz39_3 : w37.cell? ⟨gb147, 3, none⟩ = some (.bool t142) := (blk_cell BK147.out 3).trans rfl
              have hcz39_4 : w37.cell? ⟨gb147, 4, none⟩ = some (.bool t143) := (blk_cell BK147.out 4).trans rfl
              have hcz39_5 : w37.cell? ⟨gb147, 5, none⟩ = some (.int .i64 t144) := (blk_cell BK147.out 5).trans rfl
              have hfz39_0 := blk_frozen BK147.out 0
              have hfz39_1 := blk_frozen BK147.out 1
              have hfz39_2 := blk_frozen BK147.out 2
              have hfz39_3 := blk_frozen BK147.out 3
              have hfz39_4 := blk_frozen BK147.out 4
              have hfz39_5 := blk_frozen BK147.out 5
              have hcz40_0 : w37.cell? ⟨gb137, 0, none⟩ = some (.int .i64 0) := (blk_cell BK137.out 0).trans rfl
              have hcz40_1 : w37.cell? ⟨gb137, 1, none⟩ = some (.string (⟨#[]⟩ : ByteArray)) := (blk_cell BK137.out 1).trans rfl
              have hcz40_2 : w37.cell? ⟨gb137, 2, none⟩ = some (.string (⟨#[]⟩ : ByteArray)) := (blk_cell BK137.out 2).trans rfl
              have hcz40_3 : w37.cell? ⟨gb137, 3, none⟩ = some (.bool false) := (blk_cell BK137.out 3).trans rfl
              have hcz40_4 : w37.cell? ⟨gb137, 4, none⟩ = some (.bool false) := (blk_cell BK137.out 4).trans rfl
              have hcz40_5 : w37.cell? ⟨gb137, 5, none⟩ = some (.int .i64 0) := (blk_cell BK137.out 5).trans rfl
              have hfz40_0 := blk_frozen BK137.out 0
              have hfz40_1 := blk_frozen BK137.out 1
              have hfz40_2 := blk_frozen BK137.out 2
              have hfz40_3 := blk_frozen BK137.out 3
              have hfz40_4 := blk_frozen BK137.out 4
              have hfz40_5 := blk_frozen BK137.out 5
              try go_wp2
              refine bodyPost_ret (results_ct rfl _ _ gb137 41 #[.int .i64 t139, .string t140, .string (t141 ++ (a1.extract 0 (t145 : Int).toNat)), .bool t142, .bool t143, .int .i64 t144] (0, 0) _ rfl (by (with_reducible repeat (first | refine blk_drewN ?_ _ | refine blk_drew ?_ | refine blk_alloc ?_ _)); refine blk_put (cs := #[.int .i64 t139, .string t140, .string (t141 ++ (a1.extract 0 (t145 : Int).toNat)), .bool t142, .bool t143, .int .i64 0]) ?_ 5 _ rfl; (with_reducible repeat (first | refine blk_drewN ?_ _ | refine blk_drew ?_ | refine blk_alloc ?_ _)); refine blk_put (cs := #[.int .i64 t139, .string t140, .string (t141 ++ (a1.extract 0 (t145 : Int).toNat)), .bool t142, .bool false, .int .i64 0]) ?_ 4 _ rfl; (with_reducible repeat (first | refine blk_drewN ?_ _ | refine blk_drew ?_ | refine blk_alloc ?_ _)); refine blk_put (cs := #[.int .i64 t139, .string t140, .string (t141 ++ (a1.extract 0 (t145 : Int).toNat)), .bool false, .bool false, .int .i64 0]) ?_ 3 _ rfl; (with_reducible repeat (first | refine blk_drewN ?_ _ | refine blk_drew ?_ | refine blk_alloc ?_ _)); refine blk_put (cs := #[.int .i64 t139, .string t140, .string (⟨#[]⟩ : ByteArray), .bool false, .bool false, .int .i64 0]) ?_ 2 _ rfl; (with_reducible repeat (first | refine blk_drewN ?_ _ | refine blk_drew ?_ | refine blk_alloc ?_ _)); refine blk_put (cs := #[.int .i64 t139, .string (⟨#[]⟩ : ByteArray), .string (⟨#[]⟩ : ByteArray), .bool false, .bool false, .int .i64 0]) ?_ 1 _ rfl; (with_reducible repeat (first | refine blk_drewN ?_ _ | refine blk_drew ?_ | refine blk_alloc ?_ _)); refine blk_put (cs := #[.int .i64 0, .string (⟨#[]⟩ : ByteArray), .string (⟨#[]⟩ : ByteArray), .bool false, .bool false, .int .i64 0]) ?_ 0 _ rfl; (with_reducible repeat (first | refine blk_drewN ?_ _ | refine blk_drew ?_ | refine blk_alloc ?_ _)); refine blk_far ?_ NB137_147.out _; (with_reducible repeat (first | refine blk_drewN ?_ _ | refine blk_drew ?_ | refine blk_alloc ?_ _)); exact BK137.out) Try.underlying41 rfl (by kernel_rfl)) rfl ?_
              exact ⟨by first | rfl | (simp [errW_none, errW_some] <;> rfl) | (simp [*, errW_none, errW_some] <;> rfl), by repeat (first | (with_reducible first | exact HB.out | apply below_alloc | apply pw_below_drewN | apply below_drew1 | refine below_set ?_ GE136.out | refine below_set ?_ GE137.out | refine below_set ?_ GE147.out) | exact HB.out)⟩
            · replace c23 := Bool.eq_false_iff.mpr c23
              subst c23
              have H1 : (some (t139, t140, t141 ++ (a1.extract 0 (t145 : Int).toNat), t142, t143, t144, 60)) = some (r1, r2, r3, r4, r5, r6, r7) := by rw [if_neg (show ¬ (false = true) by decide)] at H; exact H
              clear H
              have H := H1
              clear H1
              simp only [Option.some.injEq, Prod.mk.injEq] at H
              obtain ⟨rfl, rfl, rfl, rfl, rfl, rfl, rfl⟩ := H
              go_enter Try.func41, Try.ntmps41
              try go_wp2_with (first | ((with_reducible refine gate_dst (N := 2) rfl ?_); refine box_event ?hg (N := 2) ?hd (cs := #[.int .i64 a0_0, .string a0_1, .string a0_2, .bool a0_3, .bool false, .int .i64 a0_5]) (t := 41) ?hr ?_; (case hd => rfl); (case hg => rfl); (case hr => first | (go_simp; done) | (go_simp; rfl)); intro gb136 hg w41 hbox hb; have n0_ := Aside0.mk (below_step (by repeat (first | (with_reducible first | exact HB.out | apply below_alloc | apply pw_below_drewN | apply below_drew1) | exact HB.out)) hb); have n1_ := Aside0.mk (hbox); have n2_ := Aside0.mk ((by rw [hg]; exact (below_size (by repeat (first | (with_reducible first | exact HB.out | apply below_alloc | apply pw_below_drewN | apply below_drew1) | exact HB.out))) : w.heap.size ≤ gb136)); have n3_ := Aside0.mk ((by rw [hg]; exact (below_size (by repeat (first | (with_reducible first | exact HB.out | apply below_alloc | apply pw_below_drewN | apply below_drew1) | exact HB.out))) : w.heap.size ≤ gb136)); clear HB; have HB := n0_; have BK136 := n1_; have GW136 := n2_; have GE136 := n3_; clear n0_ n1_ n2_ n3_; clear hb hbox hg) | ((with_reducible refine gate_dst (N := 4) rfl ?_); refine box_event ?hg (N := 4) ?hd (cs := #[.int .i64 0, .string (⟨#[]⟩ : ByteArray), .string (⟨#[]⟩ : ByteArray), .bool false, .bool false, .int .i64 0]) (t := 41) ?hr ?_; (case hd => rfl); (case hg => rfl); (case hr => first | (go_simp; done) | (go_simp; rfl)); intro gb137 hg w42 hbox hb; have n0_ := Aside0.mk (blk_below (g := gb136) (o := .cells #[.int .i64 a0_0, .string a0_1, .string a0_2, .bool a0_3, .bool false, .int .i64 a0_5] 41 (0, 0)) (by (with_reducible repeat (first | refine blk_drewN ?_ _ | refine blk_drew ?_ | refine blk_alloc ?_ _)); exact BK136.out) hb); have n1_ := Aside0.mk (below_step (by repeat (first | (with_reducible first | exact HB.out | apply below_alloc | apply pw_below_drewN | apply below_drew1 | refine below_set ?_ GE136.out) | exact HB.out)) hb); have n2_ := Aside0.mk (hbox); have n3_ := Aside0.mk ((by rw [hg]; exact (below_size (by repeat (first | (with_reducible first | exact HB.out | apply below_alloc | apply pw_below_drewN | apply below_drew1 | refine below_set ?_ GE136.out) | exact HB.out))) : w.heap.size ≤ gb137)); have n4_ := Aside0.mk ((by rw [hg]; exact (below_size (by repeat (first | (with_reducible first | exact HB.out | apply below_alloc | apply pw_below_drewN | apply below_drew1 | refine below_set ?_ GE136.out) | exact HB.out))) : w.heap.size ≤ gb137)); have n5_ := Aside0.mk ((by rw [hg]; exact Nat.ne_of_lt (blk_lt (g := gb136) (o := .cells #[.int .i64 a0_0, .string a0_1, .string a0_2, .bool a0_3, .bool false, .int .i64 a0_5] 41 (0, 0)) (by (with_reducible repeat (first | refine blk_drewN ?_ _ | refine blk_drew ?_ | refine blk_alloc ?_ _)); exact BK136.out)) : gb136 ≠ gb137)); have n6_ := Aside0.mk ((by rw [hg]; exact Nat.ne_of_gt (blk_lt (g := gb136) (o := .cells #[.int .i64 a0_0, .string a0_1, .string a0_2, .bool a0_3, .bool false, .int .i64 a0_5] 41 (0, 0)) (by (with_reducible repeat (first | refine blk_drewN ?_ _ | refine blk_drew ?_ | refine blk_alloc ?_ _)); exact BK136.out)) : gb137 ≠ gb136)); clear BK136; clear HB; have BK136 := n0_; have HB := n1_; have BK137 := n2_; have GW137 := n3_; have GE137 := n4_; have NB136_137 := n5_; have NB137_136 := n6_; clear n0_ n1_ n2_ n3_ n4_ n5_ n6_; clear hb hbox hg; have hnb43 := NB136_137.out; have hnc43 := NB137_136.out; have hcz44_0 : w42.cell? ⟨gb136, 0, none⟩ = some (.int .i64 a0_0) := (blk_cell BK136.out 0).trans rfl; have hcz44_1 : w42.cell? ⟨gb136, 1, none⟩ = some (.string a0_1) := (blk_cell BK136.out 1).trans rfl; have hcz44_2 : w42.cell? ⟨gb136, 2, none⟩ = some (.string a0_2) := (blk_cell BK136.out 2).trans rfl; have hcz44_3 : w42.cell? ⟨gb136, 3, none⟩ = some (.bool a0_3) := (blk_cell BK136.out 3).trans rfl; have hcz44_4 : w42.cell? ⟨gb136, 4, none⟩ = some (.bool false) := (blk_cell BK136.out 4).trans rfl; have hcz44_5 : w42.cell? ⟨gb136, 5, none⟩ = some (.int .i64 a0_5) := (blk_cell BK136.out 5).trans rfl; have hfz44_0 := blk_frozen BK136.out 0; have hfz44_1 := blk_frozen BK136.out 1; have hfz44_2 := blk_frozen BK136.out 2; have hfz44_3 := blk_frozen BK136.out 3; have hfz44_4 := blk_frozen BK136.out 4; have hfz44_5 := blk_frozen BK136.out 5))
              have n0_ := Aside0.mk (blk_drew BK136.out)
              have n1_ := Aside0.mk (blk_drew BK137.out)
              have n2_ := Aside0.mk (below_drew1 HB.out)
              clear BK136
              clear BK137
              clear HB
              have BK136 := n0_
              have BK137 := n1_
              have HB := n2_
              clear n0_ n1_ n2_
              refine start_ (n := 9) (S := fun w' => w'.cell? ⟨gb136, 0, none⟩ = some (.int .i64 a0_0) ∧ w'.cell? ⟨gb136, 1, none⟩ = some (.string a0_1) ∧ w'.cell? ⟨gb136, 2, none⟩ = some (.string a0_2) ∧ w'.cell? ⟨gb136, 3, none⟩ = some (.bool a0_3) ∧ w'.cell? ⟨gb136, 4, none⟩ = some (.bool false) ∧ w'.cell? ⟨gb136, 5, none⟩ = some (.int .i64 a0_5)) (ds := []) #[false, false, false, false, false, false, false, false, false] (by kernel_rfl) rfl rfl ⟨(blk_cell BK136.out 0).trans rfl, (blk_cell BK136.out 1).trans rfl, (blk_cell BK136.out 2).trans rfl, (blk_cell BK136.out 3).trans rfl, (blk_cell BK136.out 4).trans rfl, (blk_cell BK136.out 5).trans rfl⟩ (fun hHeld => ?_); refine with_tabW contraref06_Write.tab3 contraref06_Write.bits3 (fun HT_ HW_ => ?_)
              generalize w42.drew = w45 at BK136 BK137 HB hHeld ⊢
              refine pure_ (i := 0) (N := some 12) (v := ?_) (a' := ?_) #[true, false, false, false, false, false, false, false, false] rfl rfl (any_of HT_.out (by kernel_rfl)) (fun _ _ _ h => h) (Or.inl ⟨by rfl, ?_⟩) ?_ ?_
              rotate_left
              · intro w'
                go_simp
                with_reducible rfl
              rotate_left
              · simp only [Act.put, List.setIfInBounds_toArray, List.set_cons_zero, List.set_cons_succ, i64_w, i32_w]
                rfl
              refine pure_ (i := 1) (N := some 13) (v := ?_) (a' := ?_) #[true, true, false, false, false, false, false, false, false] rfl rfl (any_of HT_.out (by kernel_rfl)) (fun _ _ _ h => h) (Or.inl ⟨by rfl, ?_⟩) ?_ ?_
              rotate_left
              · intro w'
                go_simp
                with_reducible rfl
              rotate_left
              · simp only [Act.put, List.setIfInBounds_toArray, List.set_cons_zero, List.set_cons_succ, i64_w, i32_w]
                rfl
              refine pure_ (i := 2) (N := some 14) (v := ?_) (a' := ?_) #[true, true, true, false, false, false, false, false, false] rfl rfl (any_of HT_.out (by kernel_rfl)) (fun _ _ _ h => h) (Or.inl ⟨by rfl, ?_⟩) ?_ ?_
              rotate_left
              · intro w'
                go_simp
                with_reducible rfl
              rotate_left
              · simp only [Act.put, List.setIfInBounds_toArray, List.set_cons_zero, List.set_cons_succ, i64_w, i32_w]
                rfl
              refine take_ (i := 3) (N := some 15) (v := ?_) (a' := ?_) #[true, true, true, true, false, false, false, false, false] rfl rfl (take_ofW HT_.out HW_.out (by kernel_rfl)) (fun _ _ _ h => h) (Or.inl ⟨by rfl, ?_⟩) hHeld ?_ ?_
              rotate_left
              · rintro w' ⟨s0, s1, s2, s3, s4, s5⟩
                go_simp
                with_reducible rfl
              rotate_left
              · simp only [Act.put, List.setIfInBounds_toArray, List.set_cons_zero, List.set_cons_succ, i64_w, i32_w]
                rfl
              refine take_ (i := 4) (N := some 16) (v := ?_) (a' := ?_) #[true, true, true, true, true, false, false, false, false] rfl rfl (take_ofW HT_.out HW_.out (by kernel_rfl)) (fun _ _ _ h => h) (Or.inl ⟨by rfl, ?_⟩) hHeld ?_ ?_
              rotate_left
              · rintro w' ⟨s0, s1, s2, s3, s4, s5⟩
                go_simp
                with_reducible rfl
              rotate_left
              · simp only [Act.put, List.setIfInBounds_toArray, List.set_cons_zero, List.set_cons_succ, i64_w, i32_w]
                rfl
              refine one_ (i := 5) (N := some 17) #[true, true, true, true, true, true, false, false, false] rfl rfl (one_of HT_.out (by kernel_rfl)) (by decide) (fun K hK => ?_)
              refine goes_ Try.func53 (by kernel_rfl) rfl #[.agg #[.int .i64 a0_0, .string a0_1, .string a0_2, .bool a0_3, .bool false, .int .i64 a0_5]] (by rfl) rfl rfl (by (try simp only [List.map_toArray, List.map_cons, List.map_nil]); first | done | rfl | (simp only [List.length_drop, List.length_take]; rfl)) ?_
              with_reducible refine (contraref06_All.calls a0_0 a0_1 a0_2 a0_3 false a0_5 t138 _ A9.out).mono ?_
              rintro e w46 ⟨rfl, hb⟩
              refine ⟨_, rfl, ?_⟩
              have n0_ := Aside0.mk (blk_below (g := gb136) (o := .cells #[.int .i64 a0_0, .string a0_1, .string a0_2, .bool a0_3, .bool false, .int .i64 a0_5] 41 (0, 0)) (by (with_reducible repeat (first | refine blk_drewN ?_ _ | refine blk_drew ?_ | refine blk_alloc ?_ _)); exact BK136.out) hb)
              have n1_ := Aside0.mk (blk_below (g := gb137) (o := .cells #[.int .i64 0, .string (⟨#[]⟩ : ByteArray), .string (⟨#[]⟩ : ByteArray), .bool false, .bool false, .int .i64 0] 41 (0, 0)) (by (with_reducible repeat (first | refine blk_drewN ?_ _ | refine blk_drew ?_ | refine blk_alloc ?_ _)); exact BK137.out) hb)
              have n2_ := Aside0.mk (below_step (by repeat (first | (with_reducible first | exact HB.out | apply below_alloc | apply pw_below_drewN | apply below_drew1 | refine below_set ?_ GE136.out | refine below_set ?_ GE137.out) | exact HB.out)) hb)
              clear BK136
              clear BK137
              clear HB
              have BK136 := n0_
              have BK137 := n1_
              have HB := n2_
              clear n0_ n1_ n2_
              (try clear hb)
              (try clear hb2)
              (try clear hk)
              (try clear hi)
              refine hK.out _ _ ⟨(blk_cell BK136.out 0).trans rfl, (blk_cell BK136.out 1).trans rfl, (blk_cell BK136.out 2).trans rfl, (blk_cell BK136.out 3).trans rfl, (blk_cell BK136.out 4).trans rfl, (blk_cell BK136.out 5).trans rfl⟩ (fun hHeld => ?_)
              clear hK K
              refine norm_ (a' := ?_) ?_ ?_
              rotate_left
              · show Act.put _ (some 17) _ = _
                simp only [Act.put, List.setIfInBounds_toArray, List.set_cons_zero, List.set_cons_succ, i64_w, i32_w]
                rfl
              refine pure_ (i := 6) (N := some 18) (v := ?_) (a' := ?_) #[true, true, true, true, true, true, true, false, false] rfl rfl (any_of HT_.out (by kernel_rfl)) (fun _ _ _ h => h) (Or.inl ⟨by rfl, ?_⟩) ?_ ?_
              rotate_left
              · intro w'
                go_simp
                with_reducible rfl
              rotate_left
              · simp only [Act.put, List.setIfInBounds_toArray, List.set_cons_zero, List.set_cons_succ, i64_w, i32_w]
                rfl
              refine pure_ (i := 7) (N := some 19) (v := ?_) (a' := ?_) #[true, true, true, true, true, true, true, true, false] rfl rfl (any_of HT_.out (by kernel_rfl)) (fun _ _ _ h => h) (Or.inl ⟨by rfl, ?_⟩) ?_ ?_
              rotate_left
              · intro w'
                go_simp
                with_reducible rfl
              rotate_left
              · simp only [Act.put, List.setIfInBounds_toArray, List.set_cons_zero, List.set_cons_succ, i64_w, i32_w]
                rfl
              refine pure_ (i := 8) (N := some 20) (v := ?_) (a' := ?_) #[true, true, true, true, true, true, true, true, true] rfl rfl (any_of HT_.out (by kernel_rfl)) (fun _ _ _ h => h) (Or.inl ⟨by rfl, ?_⟩) ?_ ?_
              rotate_left
              · intro w'
                go_simp
                with_reducible rfl
              rotate_left
              · simp only [Act.put, List.setIfInBounds_toArray, List.set_cons_zero, List.set_cons_succ, i64_w, i32_w]
                rfl
              refine done_ (done_of HT_.out (by kernel_rfl)) ?_
              have hcz47_0 : w46.cell? ⟨gb136, 0, none⟩ = some (.int .i64 a0_0) := (blk_cell BK136.out 0).trans rfl
              have hcz47_1 : w46.cell? ⟨gb136, 1, none⟩ = some (.string a0_1) := (blk_cell BK136.out 1).trans rfl
              have hcz47_2 : w46.cell? ⟨gb136, 2, none⟩ = some (.string a0_2) := (blk_cell BK136.out 2).trans rfl
              have hcz47_3 : w46.cell? ⟨gb136, 3, none⟩ = some (.bool a0_3) := (blk_cell BK136.out 3).trans rfl
              have hcz47_4 : w46.cell? ⟨gb136, 4, none⟩ = some (.bool false) := (blk_cell BK136.out 4).trans rfl
              have hcz47_5 : w46.cell? ⟨gb136, 5, none⟩ = some (.int .i64 a0_5) := (blk_cell BK136.out 5).trans rfl
              have hfz47_0 := blk_frozen BK136.out 0
              have hfz47_1 := blk_frozen BK136.out 1
              have hfz47_2 := blk_frozen BK136.out 2
              have hfz47_3 := blk_frozen BK136.out 3
              have hfz47_4 := blk_frozen BK136.out 4
              have hfz47_5 := blk_frozen BK136.out 5
              try go_wp2_with (first | ((with_reducible refine gate_callee (f := 54) rfl ?_); refine goesL_ (some 26) rfl rfl Try.func54 (by kernel_rfl) rfl #[.agg #[.int .i64 a0_0, .string a0_1, .string a0_2, .bool a0_3, .bool false, .int .i64 a0_5], .int .i64 (a1.size : Int)] rfl (by (try simp only [List.map_toArray, List.map_cons, List.map_nil]); first | done | rfl | (simp only [List.length_drop, List.length_take]; rfl)) ?_; (with_reducible refine (contraref06_burn.calls a0_0 a0_1 a0_2 a0_3 false a0_5 (a1.size : Int) t139 t140 t141 t142 t143 t144 t145 false _ A19.out).mono ?_); rintro e w48 ⟨rfl, hb⟩; refine ⟨_, rfl, ?_⟩; have n0_ := Aside0.mk (blk_below (g := gb136) (o := .cells #[.int .i64 a0_0, .string a0_1, .string a0_2, .bool a0_3, .bool false, .int .i64 a0_5] 41 (0, 0)) (by (with_reducible repeat (first | refine blk_drewN ?_ _ | refine blk_drew ?_ | refine blk_alloc ?_ _)); exact BK136.out) hb); have n1_ := Aside0.mk (blk_below (g := gb137) (o := .cells #[.int .i64 0, .string (⟨#[]⟩ : ByteArray), .string (⟨#[]⟩ : ByteArray), .bool false, .bool false, .int .i64 0] 41 (0, 0)) (by (with_reducible repeat (first | refine blk_drewN ?_ _ | refine blk_drew ?_ | refine blk_alloc ?_ _)); exact BK137.out) hb); have n2_ := Aside0.mk (below_step (by repeat (first | (with_reducible first | exact HB.out | apply below_alloc | apply pw_below_drewN | apply below_drew1 | refine below_set ?_ GE136.out | refine below_set ?_ GE137.out) | exact HB.out)) hb); clear BK136; clear BK137; clear HB; have BK136 := n0_; have BK137 := n1_; have HB := n2_; clear n0_ n1_ n2_; (try clear hb); (try clear hb2); (try clear hk); (try clear hi)) | ((with_reducible refine gate_dst (N := 6) rfl ?_); refine box_event ?hg (N := 6) ?hd (cs := #[.int .i64 0, .string (⟨#[]⟩ : ByteArray), .string (⟨#[]⟩ : ByteArray), .bool false, .bool false, .int .i64 0]) (t := 41) ?hr ?_; (case hd => rfl); (case hg => rfl); (case hr => first | (go_simp; done) | (go_simp; rfl)); intro gb147 hg w49 hbox hb; have n0_ := Aside0.mk (blk_below (g := gb136) (o := .cells #[.int .i64 a0_0, .string a0_1, .string a0_2, .bool a0_3, .bool false, .int .i64 a0_5] 41 (0, 0)) (by (with_reducible repeat (first | refine blk_drewN ?_ _ | refine blk_drew ?_ | refine blk_alloc ?_ _)); exact BK136.out) hb); have n1_ := Aside0.mk (blk_below (g := gb137) (o := .cells #[.int .i64 0, .string (⟨#[]⟩ : ByteArray), .string (⟨#[]⟩ : ByteArray), .bool false, .bool false, .int .i64 0] 41 (0, 0)) (by (with_reducible repeat (first | refine blk_drewN ?_ _ | refine blk_drew ?_ | refine blk_alloc ?_ _)); exact BK137.out) hb); have n2_ := Aside0.mk (below_step (by repeat (first | (with_reducible first | exact HB.out | apply below_alloc | apply pw_below_drewN | apply below_drew1 | refine below_set ?_ GE136.out | refine below_set ?_ GE137.out) | exact HB.out)) hb); have n3_ := Aside0.mk (hbox); have n4_ := Aside0.mk ((by rw [hg]; exact (below_size (by repeat (first | (with_reducible first | exact HB.out | apply below_alloc | apply pw_below_drewN | apply below_drew1 | refine below_set ?_ GE136.out | refine below_set ?_ GE137.out) | exact HB.out))) : w.heap.size ≤ gb147)); have n5_ := Aside0.mk ((by rw [hg]; exact (below_size (by repeat (first | (with_reducible first | exact HB.out | apply below_alloc | apply pw_below_drewN | apply below_drew1 | refine below_set ?_ GE136.out | refine below_set ?_ GE137.out) | exact HB.out))) : w.heap.size ≤ gb147)); have n6_ := Aside0.mk ((by rw [hg]; exact Nat.ne_of_lt (blk_lt (g := gb136) (o := .cells #[.int .i64 a0_0, .string a0_1, .string a0_2, .bool a0_3, .bool false, .int .i64 a0_5] 41 (0, 0)) (by (with_reducible repeat (first | refine blk_drewN ?_ _ | refine blk_drew ?_ | refine blk_alloc ?_ _)); exact BK136.out)) : gb136 ≠ gb147)); have n7_ := Aside0.mk ((by rw [hg]; exact Nat.ne_of_gt (blk_lt (g := gb136) (o := .cells #[.int .i64 a0_0, .string a0_1, .string a0_2, .bool a0_3, .bool false, .int .i64 a0_5] 41 (0, 0)) (by (with_reducible repeat (first | refine blk_drewN ?_ _ | refine blk_drew ?_ | refine blk_alloc ?_ _)); exact BK136.out)) : gb147 ≠ gb136)); have n8_ := Aside0.mk ((by rw [hg]; exact Nat.ne_of_lt (blk_lt (g := gb137) (o := .cells #[.int .i64 0, .string (⟨#[]⟩ : ByteArray), .string (⟨#[]⟩ : ByteArray), .bool false, .bool false, .int .i64 0] 41 (0, 0)) (by (with_reducible repeat (first | refine blk_drewN ?_ _ | refine blk_drew ?_ | refine blk_alloc ?_ _)); exact BK137.out)) : gb137 ≠ gb147)); have n9_ := Aside0.mk ((by rw [hg]; exact Nat.ne_of_gt (blk_lt (g := gb137) (o := .cells #[.int .i64 0, .string (⟨#[]⟩ : ByteArray), .string (⟨#[]⟩ : ByteArray), .bool false, .bool false, .int .i64 0] 41 (0, 0)) (by (with_reducible repeat (first | refine blk_drewN ?_ _ | refine blk_drew ?_ | refine blk_alloc ?_ _)); exact BK137.out)) : gb147 ≠ gb137)); clear BK136; clear BK137; clear HB; have BK136 := n0_; have BK137 := n1_; have HB := n2_; have BK147 := n3_; have GW147 := n4_; have GE147 := n5_; have NB136_147 := n6_; have NB147_136 := n7_; have NB137_147 := n8_; have NB147_137 := n9_; clear n0_ n1_ n2_ n3_ n4_ n5_ n6_ n7_ n8_ n9_; clear hb hbox hg; have hnb50 := NB147_136.out; have hnc50 := NB136_147.out; have hnb51 := NB147_137.out; have hnc51 := NB137_147.out; have hcz52_0 : w49.cell? ⟨gb147, 0, none⟩ = some (.int .i64 0) := (blk_cell BK147.out 0).trans rfl; have hcz52_1 : w49.cell? ⟨gb147, 1, none⟩ = some (.string (⟨#[]⟩ : ByteArray)) := (blk_cell BK147.out 1).trans rfl; have hcz52_2 : w49.cell? ⟨gb147, 2, none⟩ = some (.string (⟨#[]⟩ : ByteArray)) := (blk_cell BK147.out 2).trans rfl; have hcz52_3 : w49.cell? ⟨gb147, 3, none⟩ = some (.bool false) := (blk_cell BK147.out 3).trans rfl; have hcz52_4 : w49.cell? ⟨gb147, 4, none⟩ = some (.bool false) := (blk_cell BK147.out 4).trans rfl; have hcz52_5 : w49.cell? ⟨gb147, 5, none⟩ = some (.int .i64 0) := (blk_cell BK147.out 5).trans rfl; have hfz52_0 := blk_frozen BK147.out 0; have hfz52_1 := blk_frozen BK147.out 1; have hfz52_2 := blk_frozen BK147.out 2; have hfz52_3 := blk_frozen BK147.out 3; have hfz52_4 := blk_frozen BK147.out 4; have hfz52_5 := blk_frozen BK147.out 5))
              have n0_ : Aside0 (((((((w49.setCell ⟨gb147, 0, none⟩ (.int .i64 t139)).setCell ⟨gb147, 1, none⟩ (.string t140)).setCell ⟨gb147, 2, none⟩ (.string t141)).setCell ⟨gb147, 3, none⟩ (.bool t142)).setCell ⟨gb147, 4, none⟩ (.bool t143)).setCell ⟨gb147, 5, none⟩ (.int .i64 t144)).heap[gb136]? = some (.cells #[.int .i64 a0_0, .string a0_1, .string a0_2, .bool a0_3, .bool false, .int .i64 a0_5] 41 (0, 0))) := ⟨by (with_reducible repeat (first | refine blk_drewN ?_ _ | refine blk_drew ?_ | refine blk_alloc ?_ _)); refine blk_far ?_ NB136_147.out _; (with_reducible repeat (first | refine blk_drewN ?_ _ | refine blk_drew ?_ | refine blk_alloc ?_ _)); refine blk_far ?_ NB136_147.out _; (with_reducible repeat (first | refine blk_drewN ?_ _ | refine blk_drew ?_ | refine blk_alloc ?_ _)); refine blk_far ?_ NB136_147.out _; (with_reducible repeat (first | refine blk_drewN ?_ _ | refine blk_drew ?_ | refine blk_alloc ?_ _)); refine blk_far ?_ NB136_147.out _; (with_reducible repeat (first | refine blk_drewN ?_ _ | refine blk_drew ?_ | refine blk_alloc ?_ _)); refine blk_far ?_ NB136_147.out _; (with_reducible repeat (first | refine blk_drewN ?_ _ | refine blk_drew ?_ | refine blk_alloc ?_ _)); refine blk_far ?_ NB136_147.out _; (with_reducible repeat (first | refine blk_drewN ?_ _ | refine blk_drew ?_ | refine blk_alloc ?_ _)); exact BK136.out⟩
              have n1_ : Aside0 (((((((w49.setCell ⟨gb147, 0, none⟩ (.int .i64 t139)).setCell ⟨gb147, 1, none⟩ (.string t140)).setCell ⟨gb147, 2, none⟩ (.string t141)).setCell ⟨gb147, 3, none⟩ (.bool t142)).setCell ⟨gb147, 4, none⟩ (.bool t143)).setCell ⟨gb147, 5, none⟩ (.int .i64 t144)).heap[gb137]? = some (.cells #[.int .i64 0, .string (⟨#[]⟩ : ByteArray), .string (⟨#[]⟩ : ByteArray), .bool false, .bool false, .int .i64 0] 41 (0, 0))) := ⟨by (with_reducible repeat (first | refine blk_drewN ?_ _ | refine blk_drew ?_ | refine blk_alloc ?_ _)); refine blk_far ?_ NB137_147.out _; (with_reducible repeat (first | refine blk_drewN ?_ _ | refine blk_drew ?_ | refine blk_alloc ?_ _)); refine blk_far ?_ NB137_147.out _; (with_reducible repeat (first | refine blk_drewN ?_ _ | refine blk_drew ?_ | refine blk_alloc ?_ _)); refine blk_far ?_ NB137_147.out _; (with_reducible repeat (first | refine blk_drewN ?_ _ | refine blk_drew ?_ | refine blk_alloc ?_ _)); refine blk_far ?_ NB137_147.out _; (with_reducible repeat (first | refine blk_drewN ?_ _ | refine blk_drew ?_ | refine blk_alloc ?_ _)); refine blk_far ?_ NB137_147.out _; (with_reducible repeat (first | refine blk_drewN ?_ _ | refine blk_drew ?_ | refine blk_alloc ?_ _)); refine blk_far ?_ NB137_147.out _; (with_reducible repeat (first | refine blk_drewN ?_ _ | refine blk_drew ?_ | refine blk_alloc ?_ _)); exact BK137.out⟩
              have n2_ : Aside0 (((((((w49.setCell ⟨gb147, 0, none⟩ (.int .i64 t139)).setCell ⟨gb147, 1, none⟩ (.string t140)).setCell ⟨gb147, 2, none⟩ (.string t141)).setCell ⟨gb147, 3, none⟩ (.bool t142)).setCell ⟨gb147, 4, none⟩ (.bool t143)).setCell ⟨gb147, 5, none⟩ (.int .i64 t144)).heap[gb147]? = some (.cells #[.int .i64 t139, .string t140, .string t141, .bool t142, .bool t143, .int .i64 t144] 41 (0, 0))) := ⟨by (with_reducible repeat (first | refine blk_drewN ?_ _ | refine blk_drew ?_ | refine blk_alloc ?_ _)); refine blk_put (cs := #[.int .i64 t139, .string t140, .string t141, .bool t142, .bool t143, .int .i64 0]) ?_ 5 _ rfl; (with_reducible repeat (first | refine blk_drewN ?_ _ | refine blk_drew ?_ | refine blk_alloc ?_ _)); refine blk_put (cs := #[.int .i64 t139, .string t140, .string t141, .bool t142, .bool false, .int .i64 0]) ?_ 4 _ rfl; (with_reducible repeat (first | refine blk_drewN ?_ _ | refine blk_drew ?_ | refine blk_alloc ?_ _)); refine blk_put (cs := #[.int .i64 t139, .string t140, .string t141, .bool false, .bool false, .int .i64 0]) ?_ 3 _ rfl; (with_reducible repeat (first | refine blk_drewN ?_ _ | refine blk_drew ?_ | refine blk_alloc ?_ _)); refine blk_put (cs := #[.int .i64 t139, .string t140, .string (⟨#[]⟩ : ByteArray), .bool false, .bool false, .int .i64 0]) ?_ 2 _ rfl; (with_reducible repeat (first | refine blk_drewN ?_ _ | refine blk_drew ?_ | refine blk_alloc ?_ _)); refine blk_put (cs := #[.int .i64 t139, .string (⟨#[]⟩ : ByteArray), .string (⟨#[]⟩ : ByteArray), .bool false, .bool false, .int .i64 0]) ?_ 1 _ rfl; (with_reducible repeat (first | refine blk_drewN ?_ _ | refine blk_drew ?_ | refine blk_alloc ?_ _)); refine blk_put (cs := #[.int .i64 0, .string (⟨#[]⟩ : ByteArray), .string (⟨#[]⟩ : ByteArray), .bool false, .bool false, .int .i64 0]) ?_ 0 _ rfl; (with_reducible repeat (first | refine blk_drewN ?_ _ | refine blk_drew ?_ | refine blk_alloc ?_ _)); exact BK147.out⟩
              have n3_ : Aside0 (Below w.heap.size w ((((((w49.setCell ⟨gb147, 0, none⟩ (.int .i64 t139)).setCell ⟨gb147, 1, none⟩ (.string t140)).setCell ⟨gb147, 2, none⟩ (.string t141)).setCell ⟨gb147, 3, none⟩ (.bool t142)).setCell ⟨gb147, 4, none⟩ (.bool t143)).setCell ⟨gb147, 5, none⟩ (.int .i64 t144))) := ⟨by repeat (first | (with_reducible first | exact HB.out | apply below_alloc | apply pw_below_drewN | apply below_drew1 | refine below_set ?_ GE136.out | refine below_set ?_ GE137.out | refine below_set ?_ GE147.out) | exact HB.out)⟩
              (try clear BK136)
              (try clear BK137)
              (try clear BK147)
              (try clear HB)
              generalize ((((((w49.setCell ⟨gb147, 0, none⟩ (.int .i64 t139)).setCell ⟨gb147, 1, none⟩ (.string t140)).setCell ⟨gb147, 2, none⟩ (.string t141)).setCell ⟨gb147, 3, none⟩ (.bool t142)).setCell ⟨gb147, 4, none⟩ (.bool t143)).setCell ⟨gb147, 5, none⟩ (.int .i64 t144)) = w53 at n0_ n1_ n2_ n3_ ⊢
              have BK136 := n0_
              have BK137 := n1_
              have BK147 := n2_
              have HB := n3_
              clear n0_ n1_ n2_ n3_
              have n0_ := Aside0.mk (blk_drew BK136.out)
              have n1_ := Aside0.mk (blk_drew BK137.out)
              have n2_ := Aside0.mk (blk_drew BK147.out)
              have n3_ := Aside0.mk (below_drew1 HB.out)
              clear BK136
              clear BK137
              clear BK147
              clear HB
              have BK136 := n0_
              have BK137 := n1_
              have BK147 := n2_
              have HB := n3_
              clear n0_ n1_ n2_ n3_
              refine start_ (n := 8) (S := fun w' => w'.cell? ⟨gb147, 0, none⟩ = some (.int .i64 t139) ∧ w'.cell? ⟨gb147, 1, none⟩ = some (.string t140) ∧ w'.cell? ⟨gb147, 2, none⟩ = some (.string t141) ∧ w'.cell? ⟨gb147, 3, none⟩ = some (.bool t142) ∧ w'.cell? ⟨gb147, 4, none⟩ = some (.bool t143) ∧ w'.cell? ⟨gb147, 5, none⟩ = some (.int .i64 t144)) (ds := [7]) #[false, false, false, false, false, false, false, false] (by kernel_rfl) rfl rfl ⟨(blk_cell BK147.out 0).trans rfl, (blk_cell BK147.out 1).trans rfl, (blk_cell BK147.out 2).trans rfl, (blk_cell BK147.out 3).trans rfl, (blk_cell BK147.out 4).trans rfl, (blk_cell BK147.out 5).trans rfl⟩ (fun hHeld => ?_); refine with_tabW contraref06_Write.tab6 contraref06_Write.bits6 (fun HT_ HW_ => ?_)
              generalize w53.drew = w54 at BK136 BK137 BK147 HB hHeld ⊢
              refine pure_ (i := 0) (N := some 30) (v := ?_) (a' := ?_) #[true, false, false, false, false, false, false, false] rfl rfl (any_of HT_.out (by kernel_rfl)) (fun _ _ _ h => h) (Or.inl ⟨by rfl, ?_⟩) ?_ ?_
              rotate_left
              · intro w'
                go_simp
                with_reducible rfl
              rotate_left
              · simp only [Act.put, List.setIfInBounds_toArray, List.set_cons_zero, List.set_cons_succ, i64_w, i32_w]
                rfl
              refine pure_ (i := 2) (N := some 32) (v := ?_) (a' := ?_) #[true, false, true, false, false, false, false, false] rfl rfl (any_of HT_.out (by kernel_rfl)) (fun _ _ _ h => h) (Or.inl ⟨by rfl, ?_⟩) ?_ ?_
              rotate_left
              · intro w'
                go_simp
                with_reducible rfl
              rotate_left
              · simp only [Act.put, List.setIfInBounds_toArray, List.set_cons_zero, List.set_cons_succ, i64_w, i32_w]
                rfl
              refine pure_ (i := 3) (N := some 33) (v := ?_) (a' := ?_) #[true, false, true, true, false, false, false, false] rfl rfl (any_of HT_.out (by kernel_rfl)) (fun _ _ _ h => h) (Or.inl ⟨by rfl, ?_⟩) ?_ ?_
              rotate_left
              · intro w'
                go_simp
                with_reducible rfl
              rotate_left
              · simp only [Act.put, List.setIfInBounds_toArray, List.set_cons_zero, List.set_cons_succ, i64_w, i32_w]
                rfl
              refine pure_ (i := 4) (N := some 34) (v := ?_) (a' := ?_) #[true, false, true, true, true, false, false, false] rfl rfl (any_of HT_.out (by kernel_rfl)) (fun _ _ _ h => h) (Or.inl ⟨by rfl, ?_⟩) ?_ ?_
              rotate_left
              · intro w'
                go_simp
                with_reducible rfl
              rotate_left
              · simp only [Act.put, List.setIfInBounds_toArray, List.set_cons_zero, List.set_cons_succ, i64_w, i32_w]
                rfl
              refine take_ (i := 1) (N := some 31) (v := ?_) (a' := ?_) #[true, true, true, true, true, false, false, false] rfl rfl (take_ofW HT_.out HW_.out (by kernel_rfl)) (fun _ _ _ h => h) (Or.inl ⟨by rfl, ?_⟩) hHeld ?_ ?_
              rotate_left
              · rintro w' ⟨s0, s1, s2, s3, s4, s5⟩
                go_simp
                with_reducible rfl
              rotate_left
              · simp only [Act.put, List.setIfInBounds_toArray, List.set_cons_zero, List.set_cons_succ, i64_w, i32_w]
                rfl
              refine pure_ (i := 5) (N := some 35) (v := ?_) (a' := ?_) #[true, true, true, true, true, true, false, false] rfl rfl (any_of HT_.out (by kernel_rfl)) (fun _ _ _ h => h) (Or.inl ⟨by rfl, ?_⟩) ?_ ?_
              rotate_left
              · intro w'
                go_simp
                with_reducible rfl
              rotate_left
              · simp only [Act.put, List.setIfInBounds_toArray, List.set_cons_zero, List.set_cons_succ, i64_w, i32_w]
                rfl
              refine pure_ (i := 6) (N := some 36) (v := ?_) (a' := ?_) #[true, true, true, true, true, true, true, false] rfl rfl (any_of HT_.out (by kernel_rfl)) (fun _ _ _ h => h) (Or.inl ⟨by rfl, ?_⟩) ?_ ?_
              rotate_left
              · intro w'
                go_simp
                with_reducible rfl
              rotate_left
              · simp only [Act.put, List.setIfInBounds_toArray, List.set_cons_zero, List.set_cons_succ, i64_w, i32_w]
                rfl
              refine last_ (i := 7) (N := none) #[true, true, true, true, true, true, true, true] rfl rfl (one_of HT_.out (by kernel_rfl)) (by decide) (fun K hK => ?_)
              have hs55 : w54.cell? ⟨gb147, 2, none⟩ = some (.string t141) := (blk_cell BK147.out 2).trans rfl
              have hfs55 := blk_frozen BK147.out 2
              have hns55_0 := NB136_147.out
              have hns55_1 := NB137_147.out
              have hms55_0 := NB147_136.out
              have hms55_1 := NB147_137.out
              refine skip_ (w1 := ?_) (by rfl) rfl ?_ ?_
              rotate_left
              · go_simp
                rfl
              refine hK.out _ _ ?_
              clear hK K
              refine done_ (done_of HT_.out (by kernel_rfl)) ?_
              have hcz56_0 : w54.cell? ⟨gb147, 0, none⟩ = some (.int .i64 t139) := (blk_cell BK147.out 0).trans rfl
              have hcz56_1 : w54.cell? ⟨gb147, 1, none⟩ = some (.string t140) := (blk_cell BK147.out 1).trans rfl
              have hcz56_2 : w54.cell? ⟨gb147, 2, none⟩ = some (.string t141) := (blk_cell BK147.out 2).trans rfl
              have hcz56_3 : w54.cell? ⟨gb147, 3, none⟩ = some (.bool t142) := (blk_cell BK147.out 3).trans rfl
              have hcz56_4 : w54.cell? ⟨gb147, 4, none⟩ = some (.bool t143) := (blk_cell BK147.out 4).trans rfl
              have hcz56_5 : w54.cell? ⟨gb147, 5, none⟩ = some (.int .i64 t144) := (blk_cell BK147.out 5).trans rfl
              have hfz56_0 := blk_frozen BK147.out 0
              have hfz56_1 := blk_frozen BK147.out 1
              have hfz56_2 := blk_frozen BK147.out 2
              have hfz56_3 := blk_frozen BK147.out 3
              have hfz56_4 := blk_frozen BK147.out 4
              have hfz56_5 := blk_frozen BK147.out 5
              have hcz57_0 : w54.cell? ⟨gb137, 0, none⟩ = some (.int .i64 0) := (blk_cell BK137.out 0).trans rfl
              have hcz57_1 : w54.cell? ⟨gb137, 1, none⟩ = some (.string (⟨#[]⟩ : ByteArray)) := (blk_cell BK137.out 1).trans rfl
              have hcz57_2 : w54.cell? ⟨gb137, 2, none⟩ = some (.string (⟨#[]⟩ : ByteArray)) := (blk_cell BK137.out 2).trans rfl
              have hcz57_3 : w54.cell? ⟨gb137, 3, none⟩ = some (.bool false) := (blk_cell BK137.out 3).trans rfl
              have hcz57_4 : w54.cell? ⟨gb137, 4, none⟩ = some (.bool false) := (blk_cell BK137.out 4).trans rfl
              have hcz57_5 : w54.cell? ⟨gb137, 5, none⟩ = some (.int .i64 0) := (blk_cell BK137.out 5).trans rfl
              have hfz57_0 := blk_frozen BK137.out 0
              have hfz57_1 := blk_frozen BK137.out 1
              have hfz57_2 := blk_frozen BK137.out 2
              have hfz57_3 := blk_frozen BK137.out 3
              have hfz57_4 := blk_frozen BK137.out 4
              have hfz57_5 := blk_frozen BK137.out 5
              try go_wp2
              refine bodyPost_ret (results_ct rfl _ _ gb137 41 #[.int .i64 t139, .string t140, .string (t141 ++ (a1.extract 0 (t145 : Int).toNat)), .bool t142, .bool t143, .int .i64 t144] (0, 0) _ rfl (by (with_reducible repeat (first | refine blk_drewN ?_ _ | refine blk_drew ?_ | refine blk_alloc ?_ _)); refine blk_put (cs := #[.int .i64 t139, .string t140, .string (t141 ++ (a1.extract 0 (t145 : Int).toNat)), .bool t142, .bool t143, .int .i64 0]) ?_ 5 _ rfl; (with_reducible repeat (first | refine blk_drewN ?_ _ | refine blk_drew ?_ | refine blk_alloc ?_ _)); refine blk_put (cs := #[.int .i64 t139, .string t140, .string (t141 ++ (a1.extract 0 (t145 : Int).toNat)), .bool t142, .bool false, .int .i64 0]) ?_ 4 _ rfl; (with_reducible repeat (first | refine blk_drewN ?_ _ | refine blk_drew ?_ | refine blk_alloc ?_ _)); refine blk_put (cs := #[.int .i64 t139, .string t140, .string (t141 ++ (a1.extract 0 (t145 : Int).toNat)), .bool false, .bool false, .int .i64 0]) ?_ 3 _ rfl; (with_reducible repeat (first | refine blk_drewN ?_ _ | refine blk_drew ?_ | refine blk_alloc ?_ _)); refine blk_put (cs := #[.int .i64 t139, .string t140, .string (⟨#[]⟩ : ByteArray), .bool false, .bool false, .int .i64 0]) ?_ 2 _ rfl; (with_reducible repeat (first | refine blk_drewN ?_ _ | refine blk_drew ?_ | refine blk_alloc ?_ _)); refine blk_put (cs := #[.int .i64 t139, .string (⟨#[]⟩ : ByteArray), .string (⟨#[]⟩ : ByteArray), .bool false, .bool false, .int .i64 0]) ?_ 1 _ rfl; (with_reducible repeat (first | refine blk_drewN ?_ _ | refine blk_drew ?_ | refine blk_alloc ?_ _)); refine blk_put (cs := #[.int .i64 0, .string (⟨#[]⟩ : ByteArray), .string (⟨#[]⟩ : ByteArray), .bool false, .bool false, .int .i64 0]) ?_ 0 _ rfl; (with_reducible repeat (first | refine blk_drewN ?_ _ | refine blk_drew ?_ | refine blk_alloc ?_ _)); refine blk_far ?_ NB137_147.out _; (with_reducible repeat (first | refine blk_drewN ?_ _ | refine blk_drew ?_ | refine blk_alloc ?_ _)); exact BK137.out) Try.underlying41 rfl (by kernel_rfl)) rfl ?_
              exact ⟨by first | rfl | (simp [errW_none, errW_some] <;> rfl) | (simp [*, errW_none, errW_some] <;> rfl), by repeat (first | (with_reducible first | exact HB.out | apply below_alloc | apply pw_below_drewN | apply below_drew1 | refine below_set ?_ GE136.out | refine below_set ?_ GE137.out | refine below_set ?_ GE147.out) | exact HB.out)⟩
          · rw [if_neg c22] at H
            exact absurd H (by simp)
        · rw [if_neg c21] at H
          exact absurd H (by simp)
      · rw [if_neg c20] at H
        exact absurd H (by simp)

end Go.Proofs.Ythpdmjpimeibnaa.M
