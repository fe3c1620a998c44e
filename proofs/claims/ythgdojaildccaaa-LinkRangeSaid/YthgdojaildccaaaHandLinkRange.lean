/-
  LinkRange, walked by hand: sessions with nodes that there aren't, or with itself, are none.
-/
import Derived.Test.YthgdojaildccaaaOLink5
import Derived.Test.YthgdojaildccaaaRowLinkRange
namespace Go.Proofs.Ythgdojaildccaaa.Pure
open Go.RowKit Go.Proofs.Ythgdojaildccaaa.M Go.Proofs.YthgdojaildccaaaW.PrintWords Go.Proofs.YthgdojaildccaaaW.PrintLast Go.Proofs.YthgdojaildccaaaW.PrintMore
set_option linter.unusedVariables false
set_option linter.unusedSimpArgs false
theorem mx_toNat (n : Int) : mx 0 n = (n.toNat : Int) := by unfold mx; split <;> omega
theorem pack_empty (me t : Int) (k : Nat) : packL me t z64 k = [⟨me, t, 0, 0, z35⟩] := by unfold packL; rw [if_neg (by simp [z64])]; rfl
set_option maxHeartbeats 8000000 in
set_option maxRecDepth 100000 in
theorem LinkRange_hand (x0 x1 a1 a2 : Int) (w : World) (g0 : G71 ⟨x0, x1⟩) (g1 : (Lit.int .i64 a1).wf = true) (g2 : (Lit.int .i64 a2).wf = true) :
    Calls Try.prog 10 #[.agg #[.int .i64 x0, .int .i64 x1], .int .i64 a1, .int .i64 a2] w fun e w' => e = .returned (.bool true) ∧ Below w.heap.size w w' := by
  have A2 := Aside0.mk (show a2 ≤ 9223372036854775807 by simp [Lit.wf, IntKind.min, IntKind.max, IntKind.signed, IntKind.bits] at g2; omega)
  clear g0 g1 g2
  go_enter Try.func10, Try.ntmps10
  go_wp2_with (first | ((with_reducible refine gate_dst (N := 3) rfl ?_); refine box_event ?hg (N := 3) ?hd (cs := #[.int .i64 x0, .int .i64 x1]) (t := 71) ?hr ?_; (case hd => rfl); (case hg => rfl); (case hr => first | (go_simp; done) | (go_simp; rfl)); intro g3 hg w1 hbox hb; have B1 := Aside0.mk hb; have P1 := Aside0.mk hbox; clear hb hg hbox))
  refine (speaks_calls w1).mono ?_; rintro x w2 ⟨rfl, hb⟩; have B2 := Aside0.mk (below_step B1.out hb); have P2 := Aside0.mk (blk_below P1.out hb); clear hb P1 B1
  have pc0 : w2.cell? ⟨g3, 0, none⟩ = some (.int .i64 x0) := (blk_cell P2.out 0).trans rfl; have pf0 := blk_frozen P2.out 0; have pc1 : w2.cell? ⟨g3, 1, none⟩ = some (.int .i64 x1) := (blk_cell P2.out 1).trans rfl; have pf1 := blk_frozen P2.out 1
  go_wp2_with fail
  by_cases hok : 1 ≤ x1 ∧ x1 ≤ 9 ∧ 0 ≤ x0 ∧ x0 < x1
  rotate_left
  · refine (links_New_bad (me := x0) (nodes := x1) (by omega) w2).mono ?_; rintro x w3 ⟨A3, c3, rfl, hb⟩; have B3 := Aside0.mk (below_step B2.out hb); clear hb hok pc0 pf0 pc1 pf1
    dsimp only
    go_wp2_with (first | ((with_reducible refine gate_dst (N := 7) rfl ?_); refine box_event ?hg (N := 7) ?hd (cs := #[.int .i64 0, .slice none 0 0]) (t := 55) ?hr ?_; (case hd => rfl); (case hg => rfl); (case hr => first | (go_simp; done) | (go_simp; rfl)); intro g7 hg w4m hbox hb; have ZB := Aside0.mk hb; have ZX := Aside0.mk hbox; have X4g := Aside0.mk (show w3.heap.size ≤ g7 from by rw [hg]; exact Nat.le_refl _); have x_zc0 : w4m.cell? ⟨g7, 0, none⟩ = some (.int .i64 0) := (blk_cell ZX.out 0).trans rfl; have x_zf0 := blk_frozen ZX.out 0; have x_zc1 : w4m.cell? ⟨g7, 1, none⟩ = some (.slice none 0 0) := (blk_cell ZX.out 1).trans rfl; have x_zf1 := blk_frozen ZX.out 1; clear hb hg hbox) | ((with_reducible refine gate_dst (N := 28) rfl ?_); have NB4 := Aside0.mk (below_setB (below_setB ZB.out (p := ⟨g7, 0, none⟩) X4g.out (.int .i64 0)) (p := ⟨g7, 1, none⟩) X4g.out (.slice A3 0 c3)); have X4 := Aside0.mk (blk_put (blk_put ZX.out 0 (.int .i64 0) (cs' := #[.int .i64 0, .slice none 0 0]) rfl) 1 (.slice A3 0 c3) (cs' := #[.int .i64 0, .slice A3 0 c3]) rfl); clear ZB ZX x_zc0 x_zf0 x_zc1 x_zf1; generalize ((w4m.setCell ⟨g7, 0, none⟩ (.int .i64 0)).setCell ⟨g7, 1, none⟩ (.slice A3 0 c3)) = w4 at NB4 X4 ⊢; have B4 := Aside0.mk (below_step B3.out NB4.out); have x_c0 : w4.cell? ⟨g7, 0, none⟩ = some (.int .i64 0) := (blk_cell X4.out 0).trans rfl; have x_f0 := blk_frozen X4.out 0; have x_c1 : w4.cell? ⟨g7, 1, none⟩ = some (.slice A3 0 c3) := (blk_cell X4.out 1).trans rfl; have x_f1 := blk_frozen X4.out 1))
    go_ret
    exact ⟨rfl, B4.out⟩
  obtain ⟨nodes, rfl⟩ : ∃ n : Nat, x1 = (n : Int) := ⟨x1.toNat, by omega⟩
  obtain ⟨me, rfl⟩ : ∃ n : Nat, x0 = (n : Int) := ⟨x0.toNat, by omega⟩
  have HM := Aside0.mk (show me < nodes ∧ nodes ≤ 9 by omega)
  clear hok
  refine (links_New (me := me) (nodes := nodes) HM.out.1 HM.out.2 w2).mono ?_; rintro x w3 ⟨A3, c3, rfl, hR, hb⟩
  have B3 := Aside0.mk (below_step B2.out hb); have P3 := Aside0.mk (blk_below P2.out hb); have R3 := Aside0.mk (Kd.R_lower hR B2.out.size)
  clear hb hR P2 B2 pc0 pf0 pc1 pf1
  dsimp only
  by_cases hr : 0 ≤ a1
  rotate_left
  · have hbad := hr
    have e1 : decide (a1 ≥ 0) = false := decide_eq_false (by omega)
    have e2 : decide (0 ≤ a1) = false := decide_eq_false (by omega)
    have HB := Aside0.mk (show ¬(0 ≤ a1 ∧ a1 < (List.replicate nodes z64).length ∧ a1 ≠ (me : Int)) by rw [List.length_replicate]; omega)
    clear hbad hr
    go_wp2_with (first | ((with_reducible refine gate_dst (N := 7) rfl ?_); refine box_event ?hg (N := 7) ?hd (cs := #[.int .i64 0, .slice none 0 0]) (t := 55) ?hr ?_; (case hd => rfl); (case hg => rfl); (case hr => first | (go_simp; done) | (go_simp; rfl)); intro g7 hg w4m hbox hb; have ZB := Aside0.mk hb; have ZX := Aside0.mk hbox; have X4g := Aside0.mk (show w3.heap.size ≤ g7 from by rw [hg]; exact Nat.le_refl _); have x_zc0 : w4m.cell? ⟨g7, 0, none⟩ = some (.int .i64 0) := (blk_cell ZX.out 0).trans rfl; have x_zf0 := blk_frozen ZX.out 0; have x_zc1 : w4m.cell? ⟨g7, 1, none⟩ = some (.slice none 0 0) := (blk_cell ZX.out 1).trans rfl; have x_zf1 := blk_frozen ZX.out 1; clear hb hg hbox) | ((with_reducible refine gate_dst (N := 28) rfl ?_); have NB4 := Aside0.mk (below_setB (below_setB ZB.out (p := ⟨g7, 0, none⟩) X4g.out (.int .i64 (me : Int))) (p := ⟨g7, 1, none⟩) X4g.out (.slice A3 nodes c3)); have X4 := Aside0.mk (blk_put (blk_put ZX.out 0 (.int .i64 (me : Int)) (cs' := #[.int .i64 (me : Int), .slice none 0 0]) rfl) 1 (.slice A3 nodes c3) (cs' := #[.int .i64 (me : Int), .slice A3 nodes c3]) rfl); clear ZB ZX x_zc0 x_zf0 x_zc1 x_zf1; generalize ((w4m.setCell ⟨g7, 0, none⟩ (.int .i64 (me : Int))).setCell ⟨g7, 1, none⟩ (.slice A3 nodes c3)) = w4 at NB4 X4 ⊢; have B4 := Aside0.mk (below_step B3.out NB4.out); have P4 := Aside0.mk (blk_below P3.out NB4.out); have R4 := Aside0.mk (Kd.R_below R3.out NB4.out); have pc0 : w4.cell? ⟨g3, 0, none⟩ = some (.int .i64 (me : Int)) := (blk_cell P4.out 0).trans rfl; have pf0 := blk_frozen P4.out 0; have pc1 : w4.cell? ⟨g3, 1, none⟩ = some (.int .i64 (nodes : Int)) := (blk_cell P4.out 1).trans rfl; have pf1 := blk_frozen P4.out 1; have x_c0 : w4.cell? ⟨g7, 0, none⟩ = some (.int .i64 (me : Int)) := (blk_cell X4.out 0).trans rfl; have x_f0 := blk_frozen X4.out 0; have x_c1 : w4.cell? ⟨g7, 1, none⟩ = some (.slice A3 nodes c3) := (blk_cell X4.out 1).trans rfl; have x_f1 := blk_frozen X4.out 1))
    obtain ⟨-, hc4, hC4⟩ := Kd.R_reads' R4.out
    refine (links_Say_bad (m := ⟨1, ⟨0, 0⟩, 0, 0, 0, 0, 0, false, [], []⟩) (A8 := none) (C8 := 0) (A9 := none) (C9 := 0) (by rw [List.length_replicate]) hC4 (by rw [List.length_replicate]; exact hc4) HB.out).mono ?_
    rintro x w5 ⟨rfl, hb⟩
    rw [List.length_replicate]
    have B5 := Aside0.mk (below_step B4.out hb); have X5 := Aside0.mk (blk_below X4.out hb); have R5 := Aside0.mk (Kd.R_below R4.out hb)
    clear hb hc4 hC4 B4 X4 R4 P4 NB4 pc0 pf0 pc1 pf1 x_c0 x_f0 x_c1 x_f1
    dsimp only
    go_wp2_with (first | ((with_reducible refine gate_dst (N := 10) rfl ?_); refine box_event ?hg (N := 10) ?hd (cs := #[.int .i64 0, .slice none 0 0]) (t := 55) ?hr ?_; (case hd => rfl); (case hg => rfl); (case hr => first | (go_simp; done) | (go_simp; rfl)); intro g10 hg w6m hbox hb; have ZB := Aside0.mk hb; have ZX := Aside0.mk hbox; have X6g := Aside0.mk (show w5.heap.size ≤ g10 from by rw [hg]; exact Nat.le_refl _); have x_zc0 : w6m.cell? ⟨g10, 0, none⟩ = some (.int .i64 0) := (blk_cell ZX.out 0).trans rfl; have x_zf0 := blk_frozen ZX.out 0; have x_zc1 : w6m.cell? ⟨g10, 1, none⟩ = some (.slice none 0 0) := (blk_cell ZX.out 1).trans rfl; have x_zf1 := blk_frozen ZX.out 1; clear hb hg hbox) | ((with_reducible refine gate_dst (N := 55) rfl ?_); have NB6 := Aside0.mk (below_setB (below_setB ZB.out (p := ⟨g10, 0, none⟩) X6g.out (.int .i64 (me : Int))) (p := ⟨g10, 1, none⟩) X6g.out (.slice A3 nodes c3)); have X6 := Aside0.mk (blk_put (blk_put ZX.out 0 (.int .i64 (me : Int)) (cs' := #[.int .i64 (me : Int), .slice none 0 0]) rfl) 1 (.slice A3 nodes c3) (cs' := #[.int .i64 (me : Int), .slice A3 nodes c3]) rfl); clear ZB ZX x_zc0 x_zf0 x_zc1 x_zf1; generalize ((w6m.setCell ⟨g10, 0, none⟩ (.int .i64 (me : Int))).setCell ⟨g10, 1, none⟩ (.slice A3 nodes c3)) = w6 at NB6 X6 ⊢; have B6 := Aside0.mk (below_step B5.out NB6.out); have Y6 := Aside0.mk (blk_below X5.out NB6.out); have R6 := Aside0.mk (Kd.R_below R5.out NB6.out); have y_c0 : w6.cell? ⟨g7, 0, none⟩ = some (.int .i64 (me : Int)) := (blk_cell Y6.out 0).trans rfl; have y_f0 := blk_frozen Y6.out 0; have y_c1 : w6.cell? ⟨g7, 1, none⟩ = some (.slice A3 nodes c3) := (blk_cell Y6.out 1).trans rfl; have y_f1 := blk_frozen Y6.out 1; ))
    obtain ⟨-, hc4, hC4⟩ := Kd.R_reads' R6.out
    refine (links_Hear_bad (by rw [List.length_replicate]) hC4 (by rw [List.length_replicate]; exact hc4) HB.out).mono ?_
    rintro x w7 ⟨rfl, hb⟩
    rw [List.length_replicate]
    have B7 := Aside0.mk (below_step B6.out hb); have X7 := Aside0.mk (blk_below Y6.out hb); have R7 := Aside0.mk (Kd.R_below R6.out hb)
    clear hb hc4 hC4 B6 X6 Y6 R6 NB6 B5 X5 R5 y_c0 y_f0 y_c1 y_f1
    dsimp only
    go_wp2_with (first | ((with_reducible refine gate_dst (N := 12) rfl ?_); refine box_event ?hg (N := 12) ?hd (cs := #[.int .i64 0, .slice none 0 0]) (t := 55) ?hr ?_; (case hd => rfl); (case hg => rfl); (case hr => first | (go_simp; done) | (go_simp; rfl)); intro g12 hg w8m hbox hb; have ZB := Aside0.mk hb; have ZX := Aside0.mk hbox; have X8g := Aside0.mk (show w7.heap.size ≤ g12 from by rw [hg]; exact Nat.le_refl _); have x_zc0 : w8m.cell? ⟨g12, 0, none⟩ = some (.int .i64 0) := (blk_cell ZX.out 0).trans rfl; have x_zf0 := blk_frozen ZX.out 0; have x_zc1 : w8m.cell? ⟨g12, 1, none⟩ = some (.slice none 0 0) := (blk_cell ZX.out 1).trans rfl; have x_zf1 := blk_frozen ZX.out 1; clear hb hg hbox) | ((with_reducible refine gate_dst (N := 61) rfl ?_); have NB8 := Aside0.mk (below_setB (below_setB ZB.out (p := ⟨g12, 0, none⟩) X8g.out (.int .i64 (me : Int))) (p := ⟨g12, 1, none⟩) X8g.out (.slice A3 nodes c3)); have X8 := Aside0.mk (blk_put (blk_put ZX.out 0 (.int .i64 (me : Int)) (cs' := #[.int .i64 (me : Int), .slice none 0 0]) rfl) 1 (.slice A3 nodes c3) (cs' := #[.int .i64 (me : Int), .slice A3 nodes c3]) rfl); clear ZB ZX x_zc0 x_zf0 x_zc1 x_zf1; generalize ((w8m.setCell ⟨g12, 0, none⟩ (.int .i64 (me : Int))).setCell ⟨g12, 1, none⟩ (.slice A3 nodes c3)) = w8 at NB8 X8 ⊢; have B8 := Aside0.mk (below_step B7.out NB8.out); have Y8 := Aside0.mk (blk_below X7.out NB8.out); have R8 := Aside0.mk (Kd.R_below R7.out NB8.out); have y_c0 : w8.cell? ⟨g7, 0, none⟩ = some (.int .i64 (me : Int)) := (blk_cell Y8.out 0).trans rfl; have y_f0 := blk_frozen Y8.out 0; have y_c1 : w8.cell? ⟨g7, 1, none⟩ = some (.slice A3 nodes c3) := (blk_cell Y8.out 1).trans rfl; have y_f1 := blk_frozen Y8.out 1; ))
    obtain ⟨-, hc4, hC4⟩ := Kd.R_reads' R8.out
    refine (links_Next_bad (by rw [List.length_replicate]) hC4 (by rw [List.length_replicate]; exact hc4) HB.out).mono ?_
    rintro x w9 ⟨rfl, hb⟩
    have B9 := Aside0.mk (below_step B8.out hb); have Y9 := Aside0.mk (blk_below Y8.out hb); have R9 := Aside0.mk (Kd.R_below R8.out hb)
    clear hb hc4 hC4 B8 X8 Y8 R8 NB8 y_c0 y_f0 y_c1 y_f1
    have y_c0 : w9.cell? ⟨g7, 0, none⟩ = some (.int .i64 (me : Int)) := (blk_cell Y9.out 0).trans rfl; have y_f0 := blk_frozen Y9.out 0; have y_c1 : w9.cell? ⟨g7, 1, none⟩ = some (.slice A3 nodes c3) := (blk_cell Y9.out 1).trans rfl; have y_f1 := blk_frozen Y9.out 1
    go_wp2_with fail
    obtain ⟨-, hc4, hC4⟩ := Kd.R_reads' R9.out
    refine (links_Packets_bad (by rw [List.length_replicate]) hC4 (by rw [List.length_replicate]; exact hc4) HB.out).mono ?_
    rintro x w10 ⟨rfl, hb⟩
    have B10 := Aside0.mk (below_step B9.out hb)
    clear hb hc4 hC4
    go_wp2_with fail
    go_ret
    exact ⟨rfl, B10.out⟩
  by_cases hq : a1 < (nodes : Int)
  rotate_left
  · have hbad := hq
    have e1 : decide (a1 ≥ 0) = true := decide_eq_true (by omega)
    have e2 : decide (0 ≤ a1) = true := decide_eq_true (by omega)
    have e3 : decide (a1 < (nodes : Int)) = false := decide_eq_false (by omega)
    have HB := Aside0.mk (show ¬(0 ≤ a1 ∧ a1 < (List.replicate nodes z64).length ∧ a1 ≠ (me : Int)) by rw [List.length_replicate]; omega)
    clear hbad hq hr
    go_wp2_with (first | ((with_reducible refine gate_dst (N := 7) rfl ?_); refine box_event ?hg (N := 7) ?hd (cs := #[.int .i64 0, .slice none 0 0]) (t := 55) ?hr ?_; (case hd => rfl); (case hg => rfl); (case hr => first | (go_simp; done) | (go_simp; rfl)); intro g7 hg w4m hbox hb; have ZB := Aside0.mk hb; have ZX := Aside0.mk hbox; have X4g := Aside0.mk (show w3.heap.size ≤ g7 from by rw [hg]; exact Nat.le_refl _); have x_zc0 : w4m.cell? ⟨g7, 0, none⟩ = some (.int .i64 0) := (blk_cell ZX.out 0).trans rfl; have x_zf0 := blk_frozen ZX.out 0; have x_zc1 : w4m.cell? ⟨g7, 1, none⟩ = some (.slice none 0 0) := (blk_cell ZX.out 1).trans rfl; have x_zf1 := blk_frozen ZX.out 1; clear hb hg hbox) | ((with_reducible refine gate_dst (N := 28) rfl ?_); have NB4 := Aside0.mk (below_setB (below_setB ZB.out (p := ⟨g7, 0, none⟩) X4g.out (.int .i64 (me : Int))) (p := ⟨g7, 1, none⟩) X4g.out (.slice A3 nodes c3)); have X4 := Aside0.mk (blk_put (blk_put ZX.out 0 (.int .i64 (me : Int)) (cs' := #[.int .i64 (me : Int), .slice none 0 0]) rfl) 1 (.slice A3 nodes c3) (cs' := #[.int .i64 (me : Int), .slice A3 nodes c3]) rfl); clear ZB ZX x_zc0 x_zf0 x_zc1 x_zf1; generalize ((w4m.setCell ⟨g7, 0, none⟩ (.int .i64 (me : Int))).setCell ⟨g7, 1, none⟩ (.slice A3 nodes c3)) = w4 at NB4 X4 ⊢; have B4 := Aside0.mk (below_step B3.out NB4.out); have P4 := Aside0.mk (blk_below P3.out NB4.out); have R4 := Aside0.mk (Kd.R_below R3.out NB4.out); have pc0 : w4.cell? ⟨g3, 0, none⟩ = some (.int .i64 (me : Int)) := (blk_cell P4.out 0).trans rfl; have pf0 := blk_frozen P4.out 0; have pc1 : w4.cell? ⟨g3, 1, none⟩ = some (.int .i64 (nodes : Int)) := (blk_cell P4.out 1).trans rfl; have pf1 := blk_frozen P4.out 1; have x_c0 : w4.cell? ⟨g7, 0, none⟩ = some (.int .i64 (me : Int)) := (blk_cell X4.out 0).trans rfl; have x_f0 := blk_frozen X4.out 0; have x_c1 : w4.cell? ⟨g7, 1, none⟩ = some (.slice A3 nodes c3) := (blk_cell X4.out 1).trans rfl; have x_f1 := blk_frozen X4.out 1))
    obtain ⟨-, hc4, hC4⟩ := Kd.R_reads' R4.out
    refine (links_Say_bad (m := ⟨1, ⟨0, 0⟩, 0, 0, 0, 0, 0, false, [], []⟩) (A8 := none) (C8 := 0) (A9 := none) (C9 := 0) (by rw [List.length_replicate]) hC4 (by rw [List.length_replicate]; exact hc4) HB.out).mono ?_
    rintro x w5 ⟨rfl, hb⟩
    rw [List.length_replicate]
    have B5 := Aside0.mk (below_step B4.out hb); have X5 := Aside0.mk (blk_below X4.out hb); have R5 := Aside0.mk (Kd.R_below R4.out hb)
    clear hb hc4 hC4 B4 X4 R4 P4 NB4 pc0 pf0 pc1 pf1 x_c0 x_f0 x_c1 x_f1
    dsimp only
    go_wp2_with (first | ((with_reducible refine gate_dst (N := 10) rfl ?_); refine box_event ?hg (N := 10) ?hd (cs := #[.int .i64 0, .slice none 0 0]) (t := 55) ?hr ?_; (case hd => rfl); (case hg => rfl); (case hr => first | (go_simp; done) | (go_simp; rfl)); intro g10 hg w6m hbox hb; have ZB := Aside0.mk hb; have ZX := Aside0.mk hbox; have X6g := Aside0.mk (show w5.heap.size ≤ g10 from by rw [hg]; exact Nat.le_refl _); have x_zc0 : w6m.cell? ⟨g10, 0, none⟩ = some (.int .i64 0) := (blk_cell ZX.out 0).trans rfl; have x_zf0 := blk_frozen ZX.out 0; have x_zc1 : w6m.cell? ⟨g10, 1, none⟩ = some (.slice none 0 0) := (blk_cell ZX.out 1).trans rfl; have x_zf1 := blk_frozen ZX.out 1; clear hb hg hbox) | ((with_reducible refine gate_dst (N := 55) rfl ?_); have NB6 := Aside0.mk (below_setB (below_setB ZB.out (p := ⟨g10, 0, none⟩) X6g.out (.int .i64 (me : Int))) (p := ⟨g10, 1, none⟩) X6g.out (.slice A3 nodes c3)); have X6 := Aside0.mk (blk_put (blk_put ZX.out 0 (.int .i64 (me : Int)) (cs' := #[.int .i64 (me : Int), .slice none 0 0]) rfl) 1 (.slice A3 nodes c3) (cs' := #[.int .i64 (me : Int), .slice A3 nodes c3]) rfl); clear ZB ZX x_zc0 x_zf0 x_zc1 x_zf1; generalize ((w6m.setCell ⟨g10, 0, none⟩ (.int .i64 (me : Int))).setCell ⟨g10, 1, none⟩ (.slice A3 nodes c3)) = w6 at NB6 X6 ⊢; have B6 := Aside0.mk (below_step B5.out NB6.out); have Y6 := Aside0.mk (blk_below X5.out NB6.out); have R6 := Aside0.mk (Kd.R_below R5.out NB6.out); have y_c0 : w6.cell? ⟨g7, 0, none⟩ = some (.int .i64 (me : Int)) := (blk_cell Y6.out 0).trans rfl; have y_f0 := blk_frozen Y6.out 0; have y_c1 : w6.cell? ⟨g7, 1, none⟩ = some (.slice A3 nodes c3) := (blk_cell Y6.out 1).trans rfl; have y_f1 := blk_frozen Y6.out 1; ))
    obtain ⟨-, hc4, hC4⟩ := Kd.R_reads' R6.out
    refine (links_Hear_bad (by rw [List.length_replicate]) hC4 (by rw [List.length_replicate]; exact hc4) HB.out).mono ?_
    rintro x w7 ⟨rfl, hb⟩
    rw [List.length_replicate]
    have B7 := Aside0.mk (below_step B6.out hb); have X7 := Aside0.mk (blk_below Y6.out hb); have R7 := Aside0.mk (Kd.R_below R6.out hb)
    clear hb hc4 hC4 B6 X6 Y6 R6 NB6 B5 X5 R5 y_c0 y_f0 y_c1 y_f1
    dsimp only
    go_wp2_with (first | ((with_reducible refine gate_dst (N := 12) rfl ?_); refine box_event ?hg (N := 12) ?hd (cs := #[.int .i64 0, .slice none 0 0]) (t := 55) ?hr ?_; (case hd => rfl); (case hg => rfl); (case hr => first | (go_simp; done) | (go_simp; rfl)); intro g12 hg w8m hbox hb; have ZB := Aside0.mk hb; have ZX := Aside0.mk hbox; have X8g := Aside0.mk (show w7.heap.size ≤ g12 from by rw [hg]; exact Nat.le_refl _); have x_zc0 : w8m.cell? ⟨g12, 0, none⟩ = some (.int .i64 0) := (blk_cell ZX.out 0).trans rfl; have x_zf0 := blk_frozen ZX.out 0; have x_zc1 : w8m.cell? ⟨g12, 1, none⟩ = some (.slice none 0 0) := (blk_cell ZX.out 1).trans rfl; have x_zf1 := blk_frozen ZX.out 1; clear hb hg hbox) | ((with_reducible refine gate_dst (N := 61) rfl ?_); have NB8 := Aside0.mk (below_setB (below_setB ZB.out (p := ⟨g12, 0, none⟩) X8g.out (.int .i64 (me : Int))) (p := ⟨g12, 1, none⟩) X8g.out (.slice A3 nodes c3)); have X8 := Aside0.mk (blk_put (blk_put ZX.out 0 (.int .i64 (me : Int)) (cs' := #[.int .i64 (me : Int), .slice none 0 0]) rfl) 1 (.slice A3 nodes c3) (cs' := #[.int .i64 (me : Int), .slice A3 nodes c3]) rfl); clear ZB ZX x_zc0 x_zf0 x_zc1 x_zf1; generalize ((w8m.setCell ⟨g12, 0, none⟩ (.int .i64 (me : Int))).setCell ⟨g12, 1, none⟩ (.slice A3 nodes c3)) = w8 at NB8 X8 ⊢; have B8 := Aside0.mk (below_step B7.out NB8.out); have Y8 := Aside0.mk (blk_below X7.out NB8.out); have R8 := Aside0.mk (Kd.R_below R7.out NB8.out); have y_c0 : w8.cell? ⟨g7, 0, none⟩ = some (.int .i64 (me : Int)) := (blk_cell Y8.out 0).trans rfl; have y_f0 := blk_frozen Y8.out 0; have y_c1 : w8.cell? ⟨g7, 1, none⟩ = some (.slice A3 nodes c3) := (blk_cell Y8.out 1).trans rfl; have y_f1 := blk_frozen Y8.out 1; ))
    obtain ⟨-, hc4, hC4⟩ := Kd.R_reads' R8.out
    refine (links_Next_bad (by rw [List.length_replicate]) hC4 (by rw [List.length_replicate]; exact hc4) HB.out).mono ?_
    rintro x w9 ⟨rfl, hb⟩
    have B9 := Aside0.mk (below_step B8.out hb); have Y9 := Aside0.mk (blk_below Y8.out hb); have R9 := Aside0.mk (Kd.R_below R8.out hb)
    clear hb hc4 hC4 B8 X8 Y8 R8 NB8 y_c0 y_f0 y_c1 y_f1
    have y_c0 : w9.cell? ⟨g7, 0, none⟩ = some (.int .i64 (me : Int)) := (blk_cell Y9.out 0).trans rfl; have y_f0 := blk_frozen Y9.out 0; have y_c1 : w9.cell? ⟨g7, 1, none⟩ = some (.slice A3 nodes c3) := (blk_cell Y9.out 1).trans rfl; have y_f1 := blk_frozen Y9.out 1
    go_wp2_with fail
    obtain ⟨-, hc4, hC4⟩ := Kd.R_reads' R9.out
    refine (links_Packets_bad (by rw [List.length_replicate]) hC4 (by rw [List.length_replicate]; exact hc4) HB.out).mono ?_
    rintro x w10 ⟨rfl, hb⟩
    have B10 := Aside0.mk (below_step B9.out hb)
    clear hb hc4 hC4
    go_wp2_with fail
    go_ret
    exact ⟨rfl, B10.out⟩
  by_cases hc : a1 = (me : Int)
  · have hbad := hc
    have e1 : decide (a1 ≥ 0) = true := decide_eq_true (by omega)
    have e2 : decide (0 ≤ a1) = true := decide_eq_true (by omega)
    have e3 : decide (a1 < (nodes : Int)) = true := decide_eq_true (by omega)
    have e4 : (a1 != (me : Int)) = false := bne_eq_false_iff_eq.mpr hc
    have HB := Aside0.mk (show ¬(0 ≤ a1 ∧ a1 < (List.replicate nodes z64).length ∧ a1 ≠ (me : Int)) by rw [List.length_replicate]; omega)
    clear hbad hc hq hr
    go_wp2_with (first | ((with_reducible refine gate_dst (N := 7) rfl ?_); refine box_event ?hg (N := 7) ?hd (cs := #[.int .i64 0, .slice none 0 0]) (t := 55) ?hr ?_; (case hd => rfl); (case hg => rfl); (case hr => first | (go_simp; done) | (go_simp; rfl)); intro g7 hg w4m hbox hb; have ZB := Aside0.mk hb; have ZX := Aside0.mk hbox; have X4g := Aside0.mk (show w3.heap.size ≤ g7 from by rw [hg]; exact Nat.le_refl _); have x_zc0 : w4m.cell? ⟨g7, 0, none⟩ = some (.int .i64 0) := (blk_cell ZX.out 0).trans rfl; have x_zf0 := blk_frozen ZX.out 0; have x_zc1 : w4m.cell? ⟨g7, 1, none⟩ = some (.slice none 0 0) := (blk_cell ZX.out 1).trans rfl; have x_zf1 := blk_frozen ZX.out 1; clear hb hg hbox) | ((with_reducible refine gate_dst (N := 28) rfl ?_); have NB4 := Aside0.mk (below_setB (below_setB ZB.out (p := ⟨g7, 0, none⟩) X4g.out (.int .i64 (me : Int))) (p := ⟨g7, 1, none⟩) X4g.out (.slice A3 nodes c3)); have X4 := Aside0.mk (blk_put (blk_put ZX.out 0 (.int .i64 (me : Int)) (cs' := #[.int .i64 (me : Int), .slice none 0 0]) rfl) 1 (.slice A3 nodes c3) (cs' := #[.int .i64 (me : Int), .slice A3 nodes c3]) rfl); clear ZB ZX x_zc0 x_zf0 x_zc1 x_zf1; generalize ((w4m.setCell ⟨g7, 0, none⟩ (.int .i64 (me : Int))).setCell ⟨g7, 1, none⟩ (.slice A3 nodes c3)) = w4 at NB4 X4 ⊢; have B4 := Aside0.mk (below_step B3.out NB4.out); have P4 := Aside0.mk (blk_below P3.out NB4.out); have R4 := Aside0.mk (Kd.R_below R3.out NB4.out); have pc0 : w4.cell? ⟨g3, 0, none⟩ = some (.int .i64 (me : Int)) := (blk_cell P4.out 0).trans rfl; have pf0 := blk_frozen P4.out 0; have pc1 : w4.cell? ⟨g3, 1, none⟩ = some (.int .i64 (nodes : Int)) := (blk_cell P4.out 1).trans rfl; have pf1 := blk_frozen P4.out 1; have x_c0 : w4.cell? ⟨g7, 0, none⟩ = some (.int .i64 (me : Int)) := (blk_cell X4.out 0).trans rfl; have x_f0 := blk_frozen X4.out 0; have x_c1 : w4.cell? ⟨g7, 1, none⟩ = some (.slice A3 nodes c3) := (blk_cell X4.out 1).trans rfl; have x_f1 := blk_frozen X4.out 1))
    obtain ⟨-, hc4, hC4⟩ := Kd.R_reads' R4.out
    refine (links_Say_bad (m := ⟨1, ⟨0, 0⟩, 0, 0, 0, 0, 0, false, [], []⟩) (A8 := none) (C8 := 0) (A9 := none) (C9 := 0) (by rw [List.length_replicate]) hC4 (by rw [List.length_replicate]; exact hc4) HB.out).mono ?_
    rintro x w5 ⟨rfl, hb⟩
    rw [List.length_replicate]
    have B5 := Aside0.mk (below_step B4.out hb); have X5 := Aside0.mk (blk_below X4.out hb); have R5 := Aside0.mk (Kd.R_below R4.out hb)
    clear hb hc4 hC4 B4 X4 R4 P4 NB4 pc0 pf0 pc1 pf1 x_c0 x_f0 x_c1 x_f1
    dsimp only
    go_wp2_with (first | ((with_reducible refine gate_dst (N := 10) rfl ?_); refine box_event ?hg (N := 10) ?hd (cs := #[.int .i64 0, .slice none 0 0]) (t := 55) ?hr ?_; (case hd => rfl); (case hg => rfl); (case hr => first | (go_simp; done) | (go_simp; rfl)); intro g10 hg w6m hbox hb; have ZB := Aside0.mk hb; have ZX := Aside0.mk hbox; have X6g := Aside0.mk (show w5.heap.size ≤ g10 from by rw [hg]; exact Nat.le_refl _); have x_zc0 : w6m.cell? ⟨g10, 0, none⟩ = some (.int .i64 0) := (blk_cell ZX.out 0).trans rfl; have x_zf0 := blk_frozen ZX.out 0; have x_zc1 : w6m.cell? ⟨g10, 1, none⟩ = some (.slice none 0 0) := (blk_cell ZX.out 1).trans rfl; have x_zf1 := blk_frozen ZX.out 1; clear hb hg hbox) | ((with_reducible refine gate_dst (N := 55) rfl ?_); have NB6 := Aside0.mk (below_setB (below_setB ZB.out (p := ⟨g10, 0, none⟩) X6g.out (.int .i64 (me : Int))) (p := ⟨g10, 1, none⟩) X6g.out (.slice A3 nodes c3)); have X6 := Aside0.mk (blk_put (blk_put ZX.out 0 (.int .i64 (me : Int)) (cs' := #[.int .i64 (me : Int), .slice none 0 0]) rfl) 1 (.slice A3 nodes c3) (cs' := #[.int .i64 (me : Int), .slice A3 nodes c3]) rfl); clear ZB ZX x_zc0 x_zf0 x_zc1 x_zf1; generalize ((w6m.setCell ⟨g10, 0, none⟩ (.int .i64 (me : Int))).setCell ⟨g10, 1, none⟩ (.slice A3 nodes c3)) = w6 at NB6 X6 ⊢; have B6 := Aside0.mk (below_step B5.out NB6.out); have Y6 := Aside0.mk (blk_below X5.out NB6.out); have R6 := Aside0.mk (Kd.R_below R5.out NB6.out); have y_c0 : w6.cell? ⟨g7, 0, none⟩ = some (.int .i64 (me : Int)) := (blk_cell Y6.out 0).trans rfl; have y_f0 := blk_frozen Y6.out 0; have y_c1 : w6.cell? ⟨g7, 1, none⟩ = some (.slice A3 nodes c3) := (blk_cell Y6.out 1).trans rfl; have y_f1 := blk_frozen Y6.out 1; ))
    obtain ⟨-, hc4, hC4⟩ := Kd.R_reads' R6.out
    refine (links_Hear_bad (by rw [List.length_replicate]) hC4 (by rw [List.length_replicate]; exact hc4) HB.out).mono ?_
    rintro x w7 ⟨rfl, hb⟩
    rw [List.length_replicate]
    have B7 := Aside0.mk (below_step B6.out hb); have X7 := Aside0.mk (blk_below Y6.out hb); have R7 := Aside0.mk (Kd.R_below R6.out hb)
    clear hb hc4 hC4 B6 X6 Y6 R6 NB6 B5 X5 R5 y_c0 y_f0 y_c1 y_f1
    dsimp only
    go_wp2_with (first | ((with_reducible refine gate_dst (N := 12) rfl ?_); refine box_event ?hg (N := 12) ?hd (cs := #[.int .i64 0, .slice none 0 0]) (t := 55) ?hr ?_; (case hd => rfl); (case hg => rfl); (case hr => first | (go_simp; done) | (go_simp; rfl)); intro g12 hg w8m hbox hb; have ZB := Aside0.mk hb; have ZX := Aside0.mk hbox; have X8g := Aside0.mk (show w7.heap.size ≤ g12 from by rw [hg]; exact Nat.le_refl _); have x_zc0 : w8m.cell? ⟨g12, 0, none⟩ = some (.int .i64 0) := (blk_cell ZX.out 0).trans rfl; have x_zf0 := blk_frozen ZX.out 0; have x_zc1 : w8m.cell? ⟨g12, 1, none⟩ = some (.slice none 0 0) := (blk_cell ZX.out 1).trans rfl; have x_zf1 := blk_frozen ZX.out 1; clear hb hg hbox) | ((with_reducible refine gate_dst (N := 61) rfl ?_); have NB8 := Aside0.mk (below_setB (below_setB ZB.out (p := ⟨g12, 0, none⟩) X8g.out (.int .i64 (me : Int))) (p := ⟨g12, 1, none⟩) X8g.out (.slice A3 nodes c3)); have X8 := Aside0.mk (blk_put (blk_put ZX.out 0 (.int .i64 (me : Int)) (cs' := #[.int .i64 (me : Int), .slice none 0 0]) rfl) 1 (.slice A3 nodes c3) (cs' := #[.int .i64 (me : Int), .slice A3 nodes c3]) rfl); clear ZB ZX x_zc0 x_zf0 x_zc1 x_zf1; generalize ((w8m.setCell ⟨g12, 0, none⟩ (.int .i64 (me : Int))).setCell ⟨g12, 1, none⟩ (.slice A3 nodes c3)) = w8 at NB8 X8 ⊢; have B8 := Aside0.mk (below_step B7.out NB8.out); have Y8 := Aside0.mk (blk_below X7.out NB8.out); have R8 := Aside0.mk (Kd.R_below R7.out NB8.out); have y_c0 : w8.cell? ⟨g7, 0, none⟩ = some (.int .i64 (me : Int)) := (blk_cell Y8.out 0).trans rfl; have y_f0 := blk_frozen Y8.out 0; have y_c1 : w8.cell? ⟨g7, 1, none⟩ = some (.slice A3 nodes c3) := (blk_cell Y8.out 1).trans rfl; have y_f1 := blk_frozen Y8.out 1; ))
    obtain ⟨-, hc4, hC4⟩ := Kd.R_reads' R8.out
    refine (links_Next_bad (by rw [List.length_replicate]) hC4 (by rw [List.length_replicate]; exact hc4) HB.out).mono ?_
    rintro x w9 ⟨rfl, hb⟩
    have B9 := Aside0.mk (below_step B8.out hb); have Y9 := Aside0.mk (blk_below Y8.out hb); have R9 := Aside0.mk (Kd.R_below R8.out hb)
    clear hb hc4 hC4 B8 X8 Y8 R8 NB8 y_c0 y_f0 y_c1 y_f1
    have y_c0 : w9.cell? ⟨g7, 0, none⟩ = some (.int .i64 (me : Int)) := (blk_cell Y9.out 0).trans rfl; have y_f0 := blk_frozen Y9.out 0; have y_c1 : w9.cell? ⟨g7, 1, none⟩ = some (.slice A3 nodes c3) := (blk_cell Y9.out 1).trans rfl; have y_f1 := blk_frozen Y9.out 1
    go_wp2_with fail
    obtain ⟨-, hc4, hC4⟩ := Kd.R_reads' R9.out
    refine (links_Packets_bad (by rw [List.length_replicate]) hC4 (by rw [List.length_replicate]; exact hc4) HB.out).mono ?_
    rintro x w10 ⟨rfl, hb⟩
    have B10 := Aside0.mk (below_step B9.out hb)
    clear hb hc4 hC4
    go_wp2_with fail
    go_ret
    exact ⟨rfl, B10.out⟩
  obtain ⟨t, rfl⟩ := Int.eq_ofNat_of_zero_le hr
  have e1 : decide ((t : Int) ≥ 0) = true := decide_eq_true (by omega)
  have e2 : decide (0 ≤ (t : Int)) = true := decide_eq_true (by omega)
  have e3 : decide ((t : Int) < (nodes : Int)) = true := decide_eq_true (by omega)
  have e3_ : decide (t < nodes) = true := decide_eq_true (by omega)
  have e4 : ((t : Int) != (me : Int)) = true := bne_iff_ne.mpr hc
  have HT := Aside0.mk (show t < (List.replicate nodes z64).length by rw [List.length_replicate]; omega); have HNE := Aside0.mk hc; have HT2 := Aside0.mk (show t < nodes by omega)
  clear hr hq hc
  go_wp2_with (first | ((with_reducible refine gate_dst (N := 7) rfl ?_); refine box_event ?hg (N := 7) ?hd (cs := #[.int .i64 0, .slice none 0 0]) (t := 55) ?hr ?_; (case hd => rfl); (case hg => rfl); (case hr => first | (go_simp; done) | (go_simp; rfl)); intro g7 hg w4m hbox hb; have ZB := Aside0.mk hb; have ZX := Aside0.mk hbox; have X4g := Aside0.mk (show w3.heap.size ≤ g7 from by rw [hg]; exact Nat.le_refl _); have x_zc0 : w4m.cell? ⟨g7, 0, none⟩ = some (.int .i64 0) := (blk_cell ZX.out 0).trans rfl; have x_zf0 := blk_frozen ZX.out 0; have x_zc1 : w4m.cell? ⟨g7, 1, none⟩ = some (.slice none 0 0) := (blk_cell ZX.out 1).trans rfl; have x_zf1 := blk_frozen ZX.out 1; clear hb hg hbox) | ((with_reducible refine gate_dst (N := 28) rfl ?_); have NB4 := Aside0.mk (below_setB (below_setB ZB.out (p := ⟨g7, 0, none⟩) X4g.out (.int .i64 (me : Int))) (p := ⟨g7, 1, none⟩) X4g.out (.slice A3 nodes c3)); have X4 := Aside0.mk (blk_put (blk_put ZX.out 0 (.int .i64 (me : Int)) (cs' := #[.int .i64 (me : Int), .slice none 0 0]) rfl) 1 (.slice A3 nodes c3) (cs' := #[.int .i64 (me : Int), .slice A3 nodes c3]) rfl); clear ZB ZX x_zc0 x_zf0 x_zc1 x_zf1; generalize ((w4m.setCell ⟨g7, 0, none⟩ (.int .i64 (me : Int))).setCell ⟨g7, 1, none⟩ (.slice A3 nodes c3)) = w4 at NB4 X4 ⊢; have B4 := Aside0.mk (below_step B3.out NB4.out); have P4 := Aside0.mk (blk_below P3.out NB4.out); have R4 := Aside0.mk (Kd.R_below R3.out NB4.out); have pc0 : w4.cell? ⟨g3, 0, none⟩ = some (.int .i64 (me : Int)) := (blk_cell P4.out 0).trans rfl; have pf0 := blk_frozen P4.out 0; have pc1 : w4.cell? ⟨g3, 1, none⟩ = some (.int .i64 (nodes : Int)) := (blk_cell P4.out 1).trans rfl; have pf1 := blk_frozen P4.out 1; have x_c0 : w4.cell? ⟨g7, 0, none⟩ = some (.int .i64 (me : Int)) := (blk_cell X4.out 0).trans rfl; have x_f0 := blk_frozen X4.out 0; have x_c1 : w4.cell? ⟨g7, 1, none⟩ = some (.slice A3 nodes c3) := (blk_cell X4.out 1).trans rfl; have x_f1 := blk_frozen X4.out 1))
  refine (links_Say (t := t) (m := ⟨1, ⟨0, 0⟩, 0, 0, 0, 0, 0, false, [], []⟩) (A8 := none) (C8 := 0) (A9 := none) (C9 := 0) (l := List.replicate nodes z64) (by rw [List.length_replicate]) B4.out.size (by rw [List.length_replicate]; exact R4.out) (fit_repl HM.out.2) HT.out HNE.out (by rw [rd64_repl HT2.out]; decide) (Kd.C_nil _ _) (Kd.C_nil _ _) ⟨by simp, by simp⟩).mono ?_
  rintro x w5 ⟨A5, c5, rfl, -, hb⟩
  rw [List.length_replicate]
  have B5 := Aside0.mk (below_step B4.out hb); have X5 := Aside0.mk (blk_below X4.out hb); have R5 := Aside0.mk (Kd.R_below R4.out hb)
  clear hb B4 X4 R4 P4 NB4 pc0 pf0 pc1 pf1 x_c0 x_f0 x_c1 x_f1
  dsimp only
  go_wp2_with (first | ((with_reducible refine gate_dst (N := 10) rfl ?_); refine box_event ?hg (N := 10) ?hd (cs := #[.int .i64 0, .slice none 0 0]) (t := 55) ?hr ?_; (case hd => rfl); (case hg => rfl); (case hr => first | (go_simp; done) | (go_simp; rfl)); intro g10 hg w6m hbox hb; have ZB := Aside0.mk hb; have ZX := Aside0.mk hbox; have X6g := Aside0.mk (show w5.heap.size ≤ g10 from by rw [hg]; exact Nat.le_refl _); have x_zc0 : w6m.cell? ⟨g10, 0, none⟩ = some (.int .i64 0) := (blk_cell ZX.out 0).trans rfl; have x_zf0 := blk_frozen ZX.out 0; have x_zc1 : w6m.cell? ⟨g10, 1, none⟩ = some (.slice none 0 0) := (blk_cell ZX.out 1).trans rfl; have x_zf1 := blk_frozen ZX.out 1; clear hb hg hbox) | ((with_reducible refine gate_dst (N := 55) rfl ?_); have NB6 := Aside0.mk (below_setB (below_setB ZB.out (p := ⟨g10, 0, none⟩) X6g.out (.int .i64 (me : Int))) (p := ⟨g10, 1, none⟩) X6g.out (.slice A5 nodes c5)); have X6 := Aside0.mk (blk_put (blk_put ZX.out 0 (.int .i64 (me : Int)) (cs' := #[.int .i64 (me : Int), .slice none 0 0]) rfl) 1 (.slice A5 nodes c5) (cs' := #[.int .i64 (me : Int), .slice A5 nodes c5]) rfl); clear ZB ZX x_zc0 x_zf0 x_zc1 x_zf1; generalize ((w6m.setCell ⟨g10, 0, none⟩ (.int .i64 (me : Int))).setCell ⟨g10, 1, none⟩ (.slice A5 nodes c5)) = w6 at NB6 X6 ⊢; have B6 := Aside0.mk (below_step B5.out NB6.out); have Y6 := Aside0.mk (blk_below X5.out NB6.out); have R6 := Aside0.mk (Kd.R_below R5.out NB6.out); have y_c0 : w6.cell? ⟨g7, 0, none⟩ = some (.int .i64 (me : Int)) := (blk_cell Y6.out 0).trans rfl; have y_f0 := blk_frozen Y6.out 0; have y_c1 : w6.cell? ⟨g7, 1, none⟩ = some (.slice A3 nodes c3) := (blk_cell Y6.out 1).trans rfl; have y_f1 := blk_frozen Y6.out 1; ))
  refine (links_Hear (t := t) (l := List.replicate nodes z64) (by rw [List.length_replicate]) B6.out.size (by rw [List.length_replicate]; exact R6.out) (fit_repl HM.out.2) HT.out HNE.out).mono ?_
  rintro x w7 ⟨A7, c7, rfl, -, hb⟩
  rw [List.length_replicate]
  have B7 := Aside0.mk (below_step B6.out hb); have X7 := Aside0.mk (blk_below Y6.out hb); have R7 := Aside0.mk (Kd.R_below R6.out hb)
  clear hb B6 X6 Y6 R6 NB6 B5 X5 R5 y_c0 y_f0 y_c1 y_f1
  dsimp only
  go_wp2_with (first | ((with_reducible refine gate_dst (N := 12) rfl ?_); refine box_event ?hg (N := 12) ?hd (cs := #[.int .i64 0, .slice none 0 0]) (t := 55) ?hr ?_; (case hd => rfl); (case hg => rfl); (case hr => first | (go_simp; done) | (go_simp; rfl)); intro g12 hg w8m hbox hb; have ZB := Aside0.mk hb; have ZX := Aside0.mk hbox; have X8g := Aside0.mk (show w7.heap.size ≤ g12 from by rw [hg]; exact Nat.le_refl _); have x_zc0 : w8m.cell? ⟨g12, 0, none⟩ = some (.int .i64 0) := (blk_cell ZX.out 0).trans rfl; have x_zf0 := blk_frozen ZX.out 0; have x_zc1 : w8m.cell? ⟨g12, 1, none⟩ = some (.slice none 0 0) := (blk_cell ZX.out 1).trans rfl; have x_zf1 := blk_frozen ZX.out 1; clear hb hg hbox) | ((with_reducible refine gate_dst (N := 61) rfl ?_); have NB8 := Aside0.mk (below_setB (below_setB ZB.out (p := ⟨g12, 0, none⟩) X8g.out (.int .i64 (me : Int))) (p := ⟨g12, 1, none⟩) X8g.out (.slice A7 nodes c7)); have X8 := Aside0.mk (blk_put (blk_put ZX.out 0 (.int .i64 (me : Int)) (cs' := #[.int .i64 (me : Int), .slice none 0 0]) rfl) 1 (.slice A7 nodes c7) (cs' := #[.int .i64 (me : Int), .slice A7 nodes c7]) rfl); clear ZB ZX x_zc0 x_zf0 x_zc1 x_zf1; generalize ((w8m.setCell ⟨g12, 0, none⟩ (.int .i64 (me : Int))).setCell ⟨g12, 1, none⟩ (.slice A7 nodes c7)) = w8 at NB8 X8 ⊢; have B8 := Aside0.mk (below_step B7.out NB8.out); have Y8 := Aside0.mk (blk_below X7.out NB8.out); have R8 := Aside0.mk (Kd.R_below R7.out NB8.out); have y_c0 : w8.cell? ⟨g7, 0, none⟩ = some (.int .i64 (me : Int)) := (blk_cell Y8.out 0).trans rfl; have y_f0 := blk_frozen Y8.out 0; have y_c1 : w8.cell? ⟨g7, 1, none⟩ = some (.slice A3 nodes c3) := (blk_cell Y8.out 1).trans rfl; have y_f1 := blk_frozen Y8.out 1; ))
  obtain ⟨-, hc4, hC4⟩ := Kd.R_reads' (show Kd.R k64 64 w8 w.heap.size _ (.slice A3 (List.replicate nodes z64).length c3) (List.replicate nodes z64) by rw [List.length_replicate]; exact R8.out)
  have HC := Aside0.mk hC4; have HCAP := Aside0.mk (show (List.replicate nodes z64).length ≤ c3 from hc4)
  clear hc4 hC4
  by_cases h1 : a2 < 1
  · refine (links_Next_low (t := t) (num := a2) (by rw [List.length_replicate]) HC.out HCAP.out HT.out HNE.out h1).mono ?_
    rintro x w9 ⟨rfl, hb⟩
    have n1 : (a2 == 1) = false := beq_eq_false_iff_ne.mpr (by omega)
    clear h1
    have B9 := Aside0.mk (below_step B8.out hb); have Y9 := Aside0.mk (blk_below Y8.out hb); have C9 := Aside0.mk (Kd.C_below HC.out hb)
    clear hb B8 X8 Y8 R8 NB8 y_c0 y_f0 y_c1 y_f1
    have y_c0 : w9.cell? ⟨g7, 0, none⟩ = some (.int .i64 (me : Int)) := (blk_cell Y9.out 0).trans rfl; have y_f0 := blk_frozen Y9.out 0; have y_c1 : w9.cell? ⟨g7, 1, none⟩ = some (.slice A3 nodes c3) := (blk_cell Y9.out 1).trans rfl; have y_f1 := blk_frozen Y9.out 1
    go_wp2_with fail
    refine (links_Packets (t := t) (k := a2.toNat) (by rw [List.length_replicate]) C9.out HCAP.out (fit_repl HM.out.2) HT.out HNE.out (mx_toNat a2) (by rw [rd64_repl HT2.out]; simp [z64])).mono ?_
    rintro x w10 ⟨v, rfl, hP, hb⟩
    rw [rd64_repl HT2.out, pack_empty] at hP
    obtain ⟨ad, c10, e10⟩ := Kd.R_slice1 hP (by simp)
    subst e10
    obtain ⟨ad', A13, C13, A14, C14, ea, x0, x1, x2, x3, x4, x5, x6, x7, x8, x9, x10, x11, x12, x13, x14, l13, g13, l14, g14⟩ := at_T37 (Kd.R_reads' hP).2.2 (0 : Int) (by decide) (by simp)
    injection ea with ea
    subst ea
    rw [show rd_T37 [⟨(me : Int), (t : Int), 0, 0, z35⟩] (0 : Int) = ⟨(me : Int), (t : Int), 0, 0, z35⟩ from rfl] at x2
    rw [show ad.add ((0 : Int).toNat * 15) = ad by simp [Addr.add]] at x2
    have B10 := Aside0.mk (below_step B9.out hb)
    clear hb hP x0 x1 x3 x4 x5 x6 x7 x8 x9 x10 x11 x12 x13 x14 l13 g13 l14 g14
    go_wp2_with fail
    go_ret
    exact ⟨rfl, B10.out⟩
  refine (links_Next (t := t) (num := a2) (by rw [List.length_replicate]) HC.out HCAP.out HT.out HNE.out (by omega) A2.out).mono ?_
  rintro x w9 ⟨rfl, hb⟩
  rw [rd64_repl HT2.out]
  have n2 : decide (a2 ≤ z64.f1) = false := decide_eq_false (by show ¬ a2 ≤ 0; omega)
  by_cases h2 : a2 = 1
  · have n1 : (a2 == 1) = true := beq_iff_eq.mpr h2
    have n3 : (a2 - 1 == z64.f1) = true := beq_iff_eq.mpr (by show a2 - 1 = 0; omega)
    rw [n2, n3]
    clear h1 h2 n2 n3
    have B9 := Aside0.mk (below_step B8.out hb); have Y9 := Aside0.mk (blk_below Y8.out hb); have C9 := Aside0.mk (Kd.C_below HC.out hb)
    clear hb B8 X8 Y8 R8 NB8 y_c0 y_f0 y_c1 y_f1
    have y_c0 : w9.cell? ⟨g7, 0, none⟩ = some (.int .i64 (me : Int)) := (blk_cell Y9.out 0).trans rfl; have y_f0 := blk_frozen Y9.out 0; have y_c1 : w9.cell? ⟨g7, 1, none⟩ = some (.slice A3 nodes c3) := (blk_cell Y9.out 1).trans rfl; have y_f1 := blk_frozen Y9.out 1
    go_wp2_with fail
    refine (links_Packets (t := t) (k := a2.toNat) (by rw [List.length_replicate]) C9.out HCAP.out (fit_repl HM.out.2) HT.out HNE.out (mx_toNat a2) (by rw [rd64_repl HT2.out]; simp [z64])).mono ?_
    rintro x w10 ⟨v, rfl, hP, hb⟩
    rw [rd64_repl HT2.out, pack_empty] at hP
    obtain ⟨ad, c10, e10⟩ := Kd.R_slice1 hP (by simp)
    subst e10
    obtain ⟨ad', A13, C13, A14, C14, ea, x0, x1, x2, x3, x4, x5, x6, x7, x8, x9, x10, x11, x12, x13, x14, l13, g13, l14, g14⟩ := at_T37 (Kd.R_reads' hP).2.2 (0 : Int) (by decide) (by simp)
    injection ea with ea
    subst ea
    rw [show rd_T37 [⟨(me : Int), (t : Int), 0, 0, z35⟩] (0 : Int) = ⟨(me : Int), (t : Int), 0, 0, z35⟩ from rfl] at x2
    rw [show ad.add ((0 : Int).toNat * 15) = ad by simp [Addr.add]] at x2
    have B10 := Aside0.mk (below_step B9.out hb)
    clear hb hP x0 x1 x3 x4 x5 x6 x7 x8 x9 x10 x11 x12 x13 x14 l13 g13 l14 g14
    go_wp2_with fail
    go_ret
    exact ⟨rfl, B10.out⟩
  have n1 : (a2 == 1) = false := beq_eq_false_iff_ne.mpr h2
  have n3 : (a2 - 1 == z64.f1) = false := beq_eq_false_iff_ne.mpr (by show a2 - 1 ≠ 0; omega)
  rw [n2, n3]
  clear h1 h2 n2 n3
  have B9 := Aside0.mk (below_step B8.out hb); have Y9 := Aside0.mk (blk_below Y8.out hb); have C9 := Aside0.mk (Kd.C_below HC.out hb)
  clear hb B8 X8 Y8 R8 NB8 y_c0 y_f0 y_c1 y_f1
  have y_c0 : w9.cell? ⟨g7, 0, none⟩ = some (.int .i64 (me : Int)) := (blk_cell Y9.out 0).trans rfl; have y_f0 := blk_frozen Y9.out 0; have y_c1 : w9.cell? ⟨g7, 1, none⟩ = some (.slice A3 nodes c3) := (blk_cell Y9.out 1).trans rfl; have y_f1 := blk_frozen Y9.out 1
  go_wp2_with fail
  refine (links_Packets (t := t) (k := a2.toNat) (by rw [List.length_replicate]) C9.out HCAP.out (fit_repl HM.out.2) HT.out HNE.out (mx_toNat a2) (by rw [rd64_repl HT2.out]; simp [z64])).mono ?_
  rintro x w10 ⟨v, rfl, hP, hb⟩
  rw [rd64_repl HT2.out, pack_empty] at hP
  obtain ⟨ad, c10, e10⟩ := Kd.R_slice1 hP (by simp)
  subst e10
  obtain ⟨ad', A13, C13, A14, C14, ea, x0, x1, x2, x3, x4, x5, x6, x7, x8, x9, x10, x11, x12, x13, x14, l13, g13, l14, g14⟩ := at_T37 (Kd.R_reads' hP).2.2 (0 : Int) (by decide) (by simp)
  injection ea with ea
  subst ea
  rw [show rd_T37 [⟨(me : Int), (t : Int), 0, 0, z35⟩] (0 : Int) = ⟨(me : Int), (t : Int), 0, 0, z35⟩ from rfl] at x2
  rw [show ad.add ((0 : Int).toNat * 15) = ad by simp [Addr.add]] at x2
  have B10 := Aside0.mk (below_step B9.out hb)
  clear hb hP x0 x1 x3 x4 x5 x6 x7 x8 x9 x10 x11 x12 x13 x14 l13 g13 l14 g14
  go_wp2_with fail
  go_ret
  exact ⟨rfl, B10.out⟩
end Go.Proofs.Ythgdojaildccaaa.Pure
