/-
  MsgKinds, walked by hand: there are just sixteen kinds; a message without anything else is of any of them.
-/
import Derived.Test.YtgmfafmefafiiaaHSays
import Derived.Test.YtgmfafmefafiiaaPMsg2
namespace Go.Proofs.Ytgmfafmefafiiaa.Pure
open Go.Proofs.Ytgmfafmefafiiaa.Pure.Msg
open Go.RowKit Go.Proofs.Ytgmfafmefafiiaa.M Go.Proofs.YtgmfafmefafiiaaW.PrintWords Go.Proofs.YtgmfafmefafiiaaW.PrintLast Go.Proofs.YtgmfafmefafiiaaW.PrintMore Go.Proofs.Ytgmfafmefafiiaa.Pure.Code
set_option linter.unusedVariables false
set_option linter.unusedSimpArgs false
def mK (k c : Int) : S28 := ⟨k, ⟨0, 0⟩, 0, 0, 0, c, 0, false, [], []⟩
theorem mK_wide {k c : Int} (hk : I64 k) (hc : I64 c) : Wide (mK k c) := by
  refine ⟨fun x hx => ?_, ⟨by show (-9223372036854775808 : Int) ≤ 0; omega, by show (0 : Int) ≤ 9223372036854775807; omega⟩, by simp [mK], by simp [mK]⟩
  simp [head, mK] at hx
  unfold I64 at *
  omega
theorem mK_kind {k c : Int} (h : k < 1 ∨ k > 16) : wcode (mK k c) = 110 := by unfold wcode; rw [if_pos (show (mK k c).f0 < 1 ∨ (mK k c).f0 > 16 from h)]
theorem mK_range {k c : Int} (h : ¬(k < 1 ∨ k > 16)) (hc : c < 0 ∨ c > 1073741824) : wcode (mK k c) = 1 := by
  unfold wcode
  rw [if_neg (show ¬((mK k c).f0 < 1 ∨ (mK k c).f0 > 16) from h), if_neg (by simp [mK]), if_neg ?_]
  intro hh
  have := hh.1 c (by simp [head, mK])
  unfold small at this
  omega
theorem mK_ok {k c : Int} (h : ¬(k < 1 ∨ k > 16)) (hc : ¬(c < 0 ∨ c > 1073741824)) : wcode (mK k c) = 0 := by
  unfold wcode
  rw [if_neg (show ¬((mK k c).f0 < 1 ∨ (mK k c).f0 > 16) from h), if_neg (by simp [mK]), if_pos ?_]
  refine ⟨fun x hx => ?_, by simp [mK]⟩
  simp [head, mK] at hx
  unfold small
  omega
set_option maxHeartbeats 4000000 in
set_option maxRecDepth 100000 in
theorem MsgKinds_hand (a0 a1 : Int) (w : World) (g0 : (Lit.int .i64 a0).wf = true) (g1 : (Lit.int .i64 a1).wf = true) :
    Calls Try.prog 8 #[.int .i64 a0, .int .i64 a1] w fun e w' => e = .returned (.bool true) ∧ Below w.heap.size w w' := by
  have hW := Aside0.mk (mK_wide (wf_i64 g0) (wf_i64 g1))
  clear g0 g1
  go_enter Try.func8, Try.ntmps8
  go_wp2_with fail
  refine (says_calls w).mono ?_; rintro x w1 ⟨rfl, hb⟩; have B1 := Aside0.mk hb; clear hb
  go_wp2_with fail
  refine (msg_Write (m := mK a0 a1) (A0 := none) (c0 := 0) (l0 := []) (A8 := none) (C8 := 0) (A9 := none) (C9 := 0) (Kd.C_nil _ _) (Nat.le_refl _) (by simp) (Kd.C_nil _ _) (Nat.le_refl _) (Kd.C_nil _ _) (Nat.le_refl _) hW.out (by simp [mK]) (by simp [mK])).mono ?_
  intro x w2 hQ
  obtain ⟨hB, h⟩ := hQ
  have B2 := Aside0.mk (below_step B1.out hB)
  by_cases h1 : a0 < 1
  · have d1 : decide (a0 < 1) = true := decide_eq_true h1
    rw [mK_kind (.inl h1)] at h
    rcases h with ⟨rfl, -⟩ | ⟨v, -, -, h⟩
    · clear h1 hB
      go_wp2_with fail
      go_ret
      exact ⟨rfl, B2.out⟩
    · exact absurd h (by decide)
  have d1 : decide (a0 < 1) = false := decide_eq_false h1
  by_cases h2 : a0 > 16
  · have d2 : decide (a0 > 16) = true := decide_eq_true h2
    have d3 : decide (16 < a0) = true := decide_eq_true h2
    rw [mK_kind (.inr h2)] at h
    rcases h with ⟨rfl, -⟩ | ⟨v, -, -, h⟩
    · clear h1 h2 hB
      go_wp2_with fail
      go_ret
      exact ⟨rfl, B2.out⟩
    · exact absurd h (by decide)
  have d2 : decide (a0 > 16) = false := decide_eq_false h2
  have d3 : decide (16 < a0) = false := decide_eq_false h2
  have hk : ¬(a0 < 1 ∨ a0 > 16) := by omega
  by_cases h4 : a1 < 0
  · have d4 : decide (a1 < 0) = true := decide_eq_true h4
    rw [mK_range hk (.inl h4)] at h
    rcases h with ⟨rfl, -⟩ | ⟨v, -, -, h⟩
    · clear h1 h2 h4 hk hB
      go_wp2_with fail
      go_ret
      exact ⟨rfl, B2.out⟩
    · exact absurd h (by decide)
  have d4 : decide (a1 < 0) = false := decide_eq_false h4
  by_cases h5 : a1 > 1073741824
  · have d5 : decide (a1 > 1073741824) = true := decide_eq_true h5
    have d6 : decide (1073741824 < a1) = true := decide_eq_true h5
    rw [mK_range hk (.inr h5)] at h
    rcases h with ⟨rfl, -⟩ | ⟨v, -, -, h⟩
    · clear h1 h2 h4 h5 hk hB
      go_wp2_with fail
      go_ret
      exact ⟨rfl, B2.out⟩
    · exact absurd h (by decide)
  have d5 : decide (a1 > 1073741824) = false := decide_eq_false h5
  have d6 : decide (1073741824 < a1) = false := decide_eq_false h5
  have hc0 : wcode (mK a0 a1) = 0 := mK_ok hk (by omega)
  rcases h with ⟨-, h⟩ | ⟨v, hx, hO, -⟩
  · exact absurd hc0 h
  rw [List.nil_append] at hO
  obtain ⟨A1, c1, e1, hc1, hC1⟩ := Kd.R_reads hO
  subst e1 hx
  have L1 := Aside0.mk hc1; have C1 := Aside0.mk hC1; have HC := Aside0.mk hc0
  clear h1 h2 h4 h5 hk hB hO hc1 hC1 hc0
  go_wp2_with fail
  refine (msg_Read (l := body (mK a0 a1)) C1.out L1.out (Nat.le_trans (body_fits HC.out hW.out) (by decide)) (body_bytes _)).mono ?_
  intro x w3 hR
  obtain ⟨hB2, v8, v9, hx, hO8, hO9⟩ := hR
  rw [read_body HC.out hW.out] at hx hO8 hO9
  obtain ⟨A8, c8, e8⟩ := Kd.R_slice hO8
  obtain ⟨A9, c9, e9⟩ := Kd.R_slice hO9
  subst e8 e9 hx
  have B3 := Aside0.mk (below_step B2.out hB2)
  clear hB2 hO8 hO9
  dsimp only [mK]
  go_wp2_with (first | ((with_reducible refine gate_dst (N := 7) rfl ?_); refine box_event ?hg (N := 7) ?hd (cs := #[.int .i64 0, .int .i64 0, .int .i64 0, .int .i64 0, .int .i64 0, .int .i64 0, .int .i64 0, .int .i64 0, .bool false, .slice none 0 0, .slice none 0 0]) (t := 28) ?hr ?_; (case hd => rfl); (case hg => rfl); (case hr => first | (go_simp; done) | (go_simp; rfl)); intro gx hg w4m hbox hb; have ZB := Aside0.mk hb; have ZX := Aside0.mk hbox; have X4g := Aside0.mk (show w3.heap.size ≤ gx from by rw [hg]; exact Nat.le_refl _); have xzc0 : w4m.cell? ⟨gx, 0, none⟩ = some (.int .i64 0) := (blk_cell ZX.out 0).trans rfl; have xzf0 := blk_frozen ZX.out 0; have xzc1 : w4m.cell? ⟨gx, 1, none⟩ = some (.int .i64 0) := (blk_cell ZX.out 1).trans rfl; have xzf1 := blk_frozen ZX.out 1; have xzc2 : w4m.cell? ⟨gx, 2, none⟩ = some (.int .i64 0) := (blk_cell ZX.out 2).trans rfl; have xzf2 := blk_frozen ZX.out 2; have xzc3 : w4m.cell? ⟨gx, 3, none⟩ = some (.int .i64 0) := (blk_cell ZX.out 3).trans rfl; have xzf3 := blk_frozen ZX.out 3; have xzc4 : w4m.cell? ⟨gx, 4, none⟩ = some (.int .i64 0) := (blk_cell ZX.out 4).trans rfl; have xzf4 := blk_frozen ZX.out 4; have xzc5 : w4m.cell? ⟨gx, 5, none⟩ = some (.int .i64 0) := (blk_cell ZX.out 5).trans rfl; have xzf5 := blk_frozen ZX.out 5; have xzc6 : w4m.cell? ⟨gx, 6, none⟩ = some (.int .i64 0) := (blk_cell ZX.out 6).trans rfl; have xzf6 := blk_frozen ZX.out 6; have xzc7 : w4m.cell? ⟨gx, 7, none⟩ = some (.int .i64 0) := (blk_cell ZX.out 7).trans rfl; have xzf7 := blk_frozen ZX.out 7; have xzc8 : w4m.cell? ⟨gx, 8, none⟩ = some (.bool false) := (blk_cell ZX.out 8).trans rfl; have xzf8 := blk_frozen ZX.out 8; have xzc9 : w4m.cell? ⟨gx, 9, none⟩ = some (.slice none 0 0) := (blk_cell ZX.out 9).trans rfl; have xzf9 := blk_frozen ZX.out 9; have xzc10 : w4m.cell? ⟨gx, 10, none⟩ = some (.slice none 0 0) := (blk_cell ZX.out 10).trans rfl; have xzf10 := blk_frozen ZX.out 10; clear hb hg hbox) | ((with_reducible refine gate_dst (N := 45) rfl ?_); have X4b := Aside0.mk (below_setB (below_setB (below_setB (below_setB (below_setB (below_setB (below_setB (below_setB (below_setB (below_setB (below_setB ZB.out (p := ⟨gx, 0, none⟩) X4g.out (.int .i64 a0)) (p := ⟨gx, 1, none⟩) X4g.out (.int .i64 0)) (p := ⟨gx, 2, none⟩) X4g.out (.int .i64 0)) (p := ⟨gx, 3, none⟩) X4g.out (.int .i64 0)) (p := ⟨gx, 4, none⟩) X4g.out (.int .i64 0)) (p := ⟨gx, 5, none⟩) X4g.out (.int .i64 0)) (p := ⟨gx, 6, none⟩) X4g.out (.int .i64 a1)) (p := ⟨gx, 7, none⟩) X4g.out (.int .i64 0)) (p := ⟨gx, 8, none⟩) X4g.out (.bool false)) (p := ⟨gx, 9, none⟩) X4g.out (.slice A8 0 c8)) (p := ⟨gx, 10, none⟩) X4g.out (.slice A9 0 c9)); have X4 := Aside0.mk (blk_put (blk_put (blk_put (blk_put (blk_put (blk_put (blk_put (blk_put (blk_put (blk_put (blk_put ZX.out 0 (.int .i64 a0) (cs' := #[.int .i64 a0, .int .i64 0, .int .i64 0, .int .i64 0, .int .i64 0, .int .i64 0, .int .i64 0, .int .i64 0, .bool false, .slice none 0 0, .slice none 0 0]) rfl) 1 (.int .i64 0) (cs' := #[.int .i64 a0, .int .i64 0, .int .i64 0, .int .i64 0, .int .i64 0, .int .i64 0, .int .i64 0, .int .i64 0, .bool false, .slice none 0 0, .slice none 0 0]) rfl) 2 (.int .i64 0) (cs' := #[.int .i64 a0, .int .i64 0, .int .i64 0, .int .i64 0, .int .i64 0, .int .i64 0, .int .i64 0, .int .i64 0, .bool false, .slice none 0 0, .slice none 0 0]) rfl) 3 (.int .i64 0) (cs' := #[.int .i64 a0, .int .i64 0, .int .i64 0, .int .i64 0, .int .i64 0, .int .i64 0, .int .i64 0, .int .i64 0, .bool false, .slice none 0 0, .slice none 0 0]) rfl) 4 (.int .i64 0) (cs' := #[.int .i64 a0, .int .i64 0, .int .i64 0, .int .i64 0, .int .i64 0, .int .i64 0, .int .i64 0, .int .i64 0, .bool false, .slice none 0 0, .slice none 0 0]) rfl) 5 (.int .i64 0) (cs' := #[.int .i64 a0, .int .i64 0, .int .i64 0, .int .i64 0, .int .i64 0, .int .i64 0, .int .i64 0, .int .i64 0, .bool false, .slice none 0 0, .slice none 0 0]) rfl) 6 (.int .i64 a1) (cs' := #[.int .i64 a0, .int .i64 0, .int .i64 0, .int .i64 0, .int .i64 0, .int .i64 0, .int .i64 a1, .int .i64 0, .bool false, .slice none 0 0, .slice none 0 0]) rfl) 7 (.int .i64 0) (cs' := #[.int .i64 a0, .int .i64 0, .int .i64 0, .int .i64 0, .int .i64 0, .int .i64 0, .int .i64 a1, .int .i64 0, .bool false, .slice none 0 0, .slice none 0 0]) rfl) 8 (.bool false) (cs' := #[.int .i64 a0, .int .i64 0, .int .i64 0, .int .i64 0, .int .i64 0, .int .i64 0, .int .i64 a1, .int .i64 0, .bool false, .slice none 0 0, .slice none 0 0]) rfl) 9 (.slice A8 0 c8) (cs' := #[.int .i64 a0, .int .i64 0, .int .i64 0, .int .i64 0, .int .i64 0, .int .i64 0, .int .i64 a1, .int .i64 0, .bool false, .slice A8 0 c8, .slice none 0 0]) rfl) 10 (.slice A9 0 c9) (cs' := #[.int .i64 a0, .int .i64 0, .int .i64 0, .int .i64 0, .int .i64 0, .int .i64 0, .int .i64 a1, .int .i64 0, .bool false, .slice A8 0 c8, .slice A9 0 c9]) rfl); clear ZB ZX xzc0 xzf0 xzc1 xzf1 xzc2 xzf2 xzc3 xzf3 xzc4 xzf4 xzc5 xzf5 xzc6 xzf6 xzc7 xzf7 xzc8 xzf8 xzc9 xzf9 xzc10 xzf10; generalize (((((((((((w4m.setCell ⟨gx, 0, none⟩ (.int .i64 a0)).setCell ⟨gx, 1, none⟩ (.int .i64 0)).setCell ⟨gx, 2, none⟩ (.int .i64 0)).setCell ⟨gx, 3, none⟩ (.int .i64 0)).setCell ⟨gx, 4, none⟩ (.int .i64 0)).setCell ⟨gx, 5, none⟩ (.int .i64 0)).setCell ⟨gx, 6, none⟩ (.int .i64 a1)).setCell ⟨gx, 7, none⟩ (.int .i64 0)).setCell ⟨gx, 8, none⟩ (.bool false)).setCell ⟨gx, 9, none⟩ (.slice A8 0 c8)).setCell ⟨gx, 10, none⟩ (.slice A9 0 c9)) = w4 at X4b X4 ⊢; have B4 := Aside0.mk (below_step B3.out X4b.out); have xc0 : w4.cell? ⟨gx, 0, none⟩ = some (.int .i64 a0) := (blk_cell X4.out 0).trans rfl; have xf0 := blk_frozen X4.out 0; have xc1 : w4.cell? ⟨gx, 1, none⟩ = some (.int .i64 0) := (blk_cell X4.out 1).trans rfl; have xf1 := blk_frozen X4.out 1; have xc2 : w4.cell? ⟨gx, 2, none⟩ = some (.int .i64 0) := (blk_cell X4.out 2).trans rfl; have xf2 := blk_frozen X4.out 2; have xc3 : w4.cell? ⟨gx, 3, none⟩ = some (.int .i64 0) := (blk_cell X4.out 3).trans rfl; have xf3 := blk_frozen X4.out 3; have xc4 : w4.cell? ⟨gx, 4, none⟩ = some (.int .i64 0) := (blk_cell X4.out 4).trans rfl; have xf4 := blk_frozen X4.out 4; have xc5 : w4.cell? ⟨gx, 5, none⟩ = some (.int .i64 0) := (blk_cell X4.out 5).trans rfl; have xf5 := blk_frozen X4.out 5; have xc6 : w4.cell? ⟨gx, 6, none⟩ = some (.int .i64 a1) := (blk_cell X4.out 6).trans rfl; have xf6 := blk_frozen X4.out 6; have xc7 : w4.cell? ⟨gx, 7, none⟩ = some (.int .i64 0) := (blk_cell X4.out 7).trans rfl; have xf7 := blk_frozen X4.out 7; have xc8 : w4.cell? ⟨gx, 8, none⟩ = some (.bool false) := (blk_cell X4.out 8).trans rfl; have xf8 := blk_frozen X4.out 8; have xc9 : w4.cell? ⟨gx, 9, none⟩ = some (.slice A8 0 c8) := (blk_cell X4.out 9).trans rfl; have xf9 := blk_frozen X4.out 9; have xc10 : w4.cell? ⟨gx, 10, none⟩ = some (.slice A9 0 c9) := (blk_cell X4.out 10).trans rfl; have xf10 := blk_frozen X4.out 10))
  go_ret
  exact ⟨rfl, B4.out⟩
end Go.Proofs.Ytgmfafmefafiiaa.Pure
