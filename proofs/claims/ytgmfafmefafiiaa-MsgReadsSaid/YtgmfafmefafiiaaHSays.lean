/-
  The small head of layer 11 (says), walked by hand.
-/
import Derived.Test.YtgmfafmefafiiaaPSays
namespace Go.Proofs.Ytgmfafmefafiiaa.Pure.Msg
open Go.RowKit Go.Proofs.Ytgmfafmefafiiaa.M Go.Proofs.YtgmfafmefafiiaaW.PrintWords Go.Proofs.YtgmfafmefafiiaaW.PrintLast Go.Proofs.YtgmfafmefafiiaaW.PrintMore Go.Proofs.Ytgmfafmefafiiaa.Pure.Code
set_option linter.unusedVariables false
set_option linter.unusedSimpArgs false
set_option maxHeartbeats 4000000 in
set_option maxRecDepth 100000 in
theorem says_calls (w : World) : Calls Try.prog 10 #[] w fun e w' => e = .returned (.bool true) ∧ Below w.heap.size w w' := by
  go_enter Try.func10, Try.ntmps10
  go_wp2_with fail
  refine (msg_Write (m := m0) (A0 := none) (c0 := 0) (l0 := []) (A8 := none) (C8 := 0) (A9 := none) (C9 := 0) (Kd.C_nil _ _) (Nat.le_refl _) (by simp) (Kd.C_nil _ _) (Nat.le_refl _) (Kd.C_nil _ _) (Nat.le_refl _) m0_wide (by simp [m0]) (by simp [m0])).mono ?_
  intro x w1 hW
  obtain ⟨hB, h⟩ := hW
  rcases h with ⟨-, hne⟩ | ⟨v, hx, hO, -⟩
  · exact absurd m0_code hne
  rw [List.nil_append, m0_body] at hO
  obtain ⟨A1, c1, e1, hc1, hC1⟩ := Kd.R_reads hO
  subst e1 hx
  have B1 := Aside0.mk hB; have L1 := Aside0.mk hc1; have C1 := Aside0.mk hC1
  clear hB hO hc1 hC1
  go_wp2_with fail
  refine (msg_Read (l := [26, 0, 0, 0, 0, 0, 6, 0, 1, 0, 0]) C1.out L1.out (by simp) (by intro x hx; simp at hx; omega)).mono ?_
  have hs : strOfNums [26, 0, 0, 0, 0, 0, 6, 0, 1, 0, 0] = ⟨#[26, 0, 0, 0, 0, 0, 6, 0, 1, 0, 0]⟩ := by decide +kernel
  intro x w2 hR
  obtain ⟨hB2, v8, v9, hx, hO8, hO9⟩ := hR
  have hrf : readF [26, 0, 0, 0, 0, 0, 6, 0, 1, 0, 0] = (m0, 0) := by rw [← m0_body]; exact read_body m0_code m0_wide
  rw [hrf] at hx hO8 hO9
  obtain ⟨A8, c8, e8⟩ := Kd.R_slice hO8
  obtain ⟨A9, c9, e9⟩ := Kd.R_slice hO9
  subst e8 e9 hx
  have B2 := Aside0.mk (below_step B1.out hB2); have C2 := Aside0.mk (Kd.C_below C1.out hB2)
  clear hB2 hO8 hO9 hrf
  dsimp only [m0]
  go_wp2_with (first | ((with_reducible refine gate_dst (N := 3) rfl ?_); refine box_event ?hg (N := 3) ?hd (cs := #[.int .i64 0, .int .i64 0, .int .i64 0, .int .i64 0, .int .i64 0, .int .i64 0, .int .i64 0, .int .i64 0, .bool false, .slice none 0 0, .slice none 0 0]) (t := 28) ?hr ?_; (case hd => rfl); (case hg => rfl); (case hr => first | (go_simp; done) | (go_simp; rfl)); intro gx hg w3 hbox hb; have B3 := Aside0.mk (below_step B2.out hb); have X3 := Aside0.mk hbox; have GX := Aside0.mk (show w.heap.size ≤ gx from by rw [hg]; exact B2.out.size); have BX := Aside0.mk hb; have GY := Aside0.mk (show w2.heap.size ≤ gx from by rw [hg]; exact Nat.le_refl _); have xc0 : w3.cell? ⟨gx, 0, none⟩ = some (.int .i64 0) := (blk_cell X3.out 0).trans rfl; have xf0 := blk_frozen X3.out 0; have xc1 : w3.cell? ⟨gx, 1, none⟩ = some (.int .i64 0) := (blk_cell X3.out 1).trans rfl; have xf1 := blk_frozen X3.out 1; have xc2 : w3.cell? ⟨gx, 2, none⟩ = some (.int .i64 0) := (blk_cell X3.out 2).trans rfl; have xf2 := blk_frozen X3.out 2; have xc3 : w3.cell? ⟨gx, 3, none⟩ = some (.int .i64 0) := (blk_cell X3.out 3).trans rfl; have xf3 := blk_frozen X3.out 3; have xc4 : w3.cell? ⟨gx, 4, none⟩ = some (.int .i64 0) := (blk_cell X3.out 4).trans rfl; have xf4 := blk_frozen X3.out 4; have xc5 : w3.cell? ⟨gx, 5, none⟩ = some (.int .i64 0) := (blk_cell X3.out 5).trans rfl; have xf5 := blk_frozen X3.out 5; have xc6 : w3.cell? ⟨gx, 6, none⟩ = some (.int .i64 0) := (blk_cell X3.out 6).trans rfl; have xf6 := blk_frozen X3.out 6; have xc7 : w3.cell? ⟨gx, 7, none⟩ = some (.int .i64 0) := (blk_cell X3.out 7).trans rfl; have xf7 := blk_frozen X3.out 7; have xc8 : w3.cell? ⟨gx, 8, none⟩ = some (.bool false) := (blk_cell X3.out 8).trans rfl; have xf8 := blk_frozen X3.out 8; have xc9 : w3.cell? ⟨gx, 9, none⟩ = some (.slice none 0 0) := (blk_cell X3.out 9).trans rfl; have xf9 := blk_frozen X3.out 9; have xc10 : w3.cell? ⟨gx, 10, none⟩ = some (.slice none 0 0) := (blk_cell X3.out 10).trans rfl; have xf10 := blk_frozen X3.out 10; clear hb hg hbox) | ((with_reducible refine gate_dst (N := 16) rfl ?_); have B4 := Aside0.mk (set11_below (g := gx) B3.out GX.out (.int .i64 13) (.int .i64 0) (.int .i64 0) (.int .i64 0) (.int .i64 0) (.int .i64 0) (.int .i64 3) (.int .i64 0) (.bool true) (.slice A8 0 c8) (.slice A9 0 c9)); have X4 := Aside0.mk (set11_blk X3.out (.int .i64 13) (.int .i64 0) (.int .i64 0) (.int .i64 0) (.int .i64 0) (.int .i64 0) (.int .i64 3) (.int .i64 0) (.bool true) (.slice A8 0 c8) (.slice A9 0 c9)); have D4 := Aside0.mk (Kd.C_below C2.out (set11_below (g := gx) BX.out GY.out (.int .i64 13) (.int .i64 0) (.int .i64 0) (.int .i64 0) (.int .i64 0) (.int .i64 0) (.int .i64 3) (.int .i64 0) (.bool true) (.slice A8 0 c8) (.slice A9 0 c9))); clear B3 X3 xc0 xf0 xc1 xf1 xc2 xf2 xc3 xf3 xc4 xf4 xc5 xf5 xc6 xf6 xc7 xf7 xc8 xf8 xc9 xf9 xc10 xf10; unfold set11 at B4 X4 D4; generalize (((((((((((w3.setCell ⟨gx, 0, none⟩ (.int .i64 13)).setCell ⟨gx, 1, none⟩ (.int .i64 0)).setCell ⟨gx, 2, none⟩ (.int .i64 0)).setCell ⟨gx, 3, none⟩ (.int .i64 0)).setCell ⟨gx, 4, none⟩ (.int .i64 0)).setCell ⟨gx, 5, none⟩ (.int .i64 0)).setCell ⟨gx, 6, none⟩ (.int .i64 3)).setCell ⟨gx, 7, none⟩ (.int .i64 0)).setCell ⟨gx, 8, none⟩ (.bool true)).setCell ⟨gx, 9, none⟩ (.slice A8 0 c8)).setCell ⟨gx, 10, none⟩ (.slice A9 0 c9)) = w4 at B4 X4 D4 ⊢; have hcv := Kd.C_string (P := Try.prog) (c := c1) Try.underlying22 Try.underlying5 Try.underlying9 D4.out; rw [hs] at hcv; have hcw : (convert 22 9 (.slice A1 11 c1)).run Try.prog w4 = .ok (.string ⟨#[26, 0, 0, 0, 0, 0, 6, 0, 1, 0, 0]⟩) w4 := hcv; clear hcv; have yc0 : w4.cell? ⟨gx, 0, none⟩ = some (.int .i64 13) := (blk_cell X4.out 0).trans rfl; have yf0 := blk_frozen X4.out 0; have yc1 : w4.cell? ⟨gx, 1, none⟩ = some (.int .i64 0) := (blk_cell X4.out 1).trans rfl; have yf1 := blk_frozen X4.out 1; have yc2 : w4.cell? ⟨gx, 2, none⟩ = some (.int .i64 0) := (blk_cell X4.out 2).trans rfl; have yf2 := blk_frozen X4.out 2; have yc3 : w4.cell? ⟨gx, 3, none⟩ = some (.int .i64 0) := (blk_cell X4.out 3).trans rfl; have yf3 := blk_frozen X4.out 3; have yc4 : w4.cell? ⟨gx, 4, none⟩ = some (.int .i64 0) := (blk_cell X4.out 4).trans rfl; have yf4 := blk_frozen X4.out 4; have yc5 : w4.cell? ⟨gx, 5, none⟩ = some (.int .i64 0) := (blk_cell X4.out 5).trans rfl; have yf5 := blk_frozen X4.out 5; have yc6 : w4.cell? ⟨gx, 6, none⟩ = some (.int .i64 3) := (blk_cell X4.out 6).trans rfl; have yf6 := blk_frozen X4.out 6; have yc7 : w4.cell? ⟨gx, 7, none⟩ = some (.int .i64 0) := (blk_cell X4.out 7).trans rfl; have yf7 := blk_frozen X4.out 7; have yc8 : w4.cell? ⟨gx, 8, none⟩ = some (.bool true) := (blk_cell X4.out 8).trans rfl; have yf8 := blk_frozen X4.out 8; have yc9 : w4.cell? ⟨gx, 9, none⟩ = some (.slice A8 0 c8) := (blk_cell X4.out 9).trans rfl; have yf9 := blk_frozen X4.out 9; have yc10 : w4.cell? ⟨gx, 10, none⟩ = some (.slice A9 0 c9) := (blk_cell X4.out 10).trans rfl; have yf10 := blk_frozen X4.out 10))
  go_ret
  exact ⟨rfl, B4.out⟩
end Go.Proofs.Ytgmfafmefafiiaa.Pure.Msg
