/-
  MsgRows, walked by hand: messages written one behind the other are read as they were; a reader with an error reads none.
-/
import Derived.Test.YtgmfafmefafiiaaHSays
import Derived.Test.YtgmfafmefafiiaaPMsg2
import Derived.Test.YtgmfafmefafiiaaHSame
import Derived.Test.YtgmfafmefafiiaaRowMsgRows
namespace Go.Proofs.Ytgmfafmefafiiaa.Pure
open Go.Proofs.Ytgmfafmefafiiaa.Pure.Msg
open Go.RowKit Go.Proofs.Ytgmfafmefafiiaa.M Go.Proofs.YtgmfafmefafiiaaW.PrintWords Go.Proofs.YtgmfafmefafiiaaW.PrintLast Go.Proofs.YtgmfafmefafiiaaW.PrintMore Go.Proofs.Ytgmfafmefafiiaa.Pure.Code
set_option linter.unusedVariables false
set_option linter.unusedSimpArgs false
theorem wide_of {m : S28} (h : G28 m) : Wide m := by
  obtain ⟨h0, h1, h2, h3, h4, h5, h6, -, h8, h9⟩ := h
  refine ⟨fun x hx => ?_, wf_i64 h6, fun x hx y hy => ?_, fun x hx => wf_i64 (h9.2 x hx)⟩
  · simp only [head, List.mem_cons, List.not_mem_nil, or_false] at hx
    rcases hx with rfl | rfl | rfl | rfl | rfl | rfl | rfl
    · exact wf_i64 h0
    · exact wf_i64 h1.1
    · exact wf_i64 h1.2
    · exact wf_i64 h2
    · exact wf_i64 h3
    · exact wf_i64 h4
    · exact wf_i64 h5
  · have hg := h8.2 x hx
    simp only [lineL, List.mem_cons, List.not_mem_nil, or_false] at hy
    rcases hy with rfl | rfl | rfl | rfl
    · exact wf_i64 hg.1.1
    · exact wf_i64 hg.1.2
    · exact wf_i64 hg.2.1
    · exact wf_i64 hg.2.2
/-- the first so many messages' bytes -/
def bsl (l : List S28) (i : Nat) : List Int := (l.take i).flatMap body
theorem rdT_get {l : List S28} {i : Nat} (h : i < l.length) : rd_T28 l (i : Int) = l[i] := by simp [rd_T28, h]
theorem bsl_next {l : List S28} {i : Nat} (h : i < l.length) : bsl l (i + 1) = bsl l i ++ body (rd_T28 l (i : Int)) := by
  unfold bsl
  rw [← List.take_append_getElem h, List.flatMap_append, List.flatMap_singleton, rdT_get h]
theorem bsl_len {l : List S28} (hw : ∀ x ∈ l, Wide x) : ∀ i, i ≤ l.length → (∀ j, j < i → wcode (rd_T28 l (j : Int)) = 0) → (bsl l i).length ≤ 41500 * i := by
  intro i
  induction i with
  | zero => intro _ _; simp [bsl]
  | succ i ih =>
    intro hi hc
    have h1 := ih (by omega) (fun j hj => hc j (by omega))
    have h2 := body_fits (hc i (by omega)) (hw _ (by rw [rdT_get (show i < l.length by omega)]; exact List.getElem_mem _))
    rw [bsl_next (by omega), List.length_append]
    omega
theorem bsl_bytes (l : List S28) (i : Nat) : Bytes (bsl l i) := fun x hx => by
  obtain ⟨y, _, h⟩ := List.mem_flatMap.mp hx
  exact body_bytes y x h
theorem bsl_drop {l : List S28} {i : Nat} (h : i < l.length) : (bsl l l.length).drop (bsl l i).length = body (rd_T28 l (i : Int)) ++ (l.drop (i + 1)).flatMap body := by
  have e : bsl l l.length = bsl l i ++ (body (rd_T28 l (i : Int)) ++ (l.drop (i + 1)).flatMap body) := by
    rw [← List.append_assoc, ← bsl_next h]
    unfold bsl
    rw [List.take_length, ← List.flatMap_append, List.take_append_drop]
  rw [e, List.drop_left]
theorem from_bad {l : List Int} {p : Nat} {e : Int} (he : e ≠ 0) : fromF l (p, e) = (z28, e, p, e) := by
  have h1 : ∀ lo hi, rI l lo hi (p, e) = (0, p, e) := fun lo hi => by unfold rI; rw [if_neg he]
  have h2 : rN l (p, e) = (0, p, e) := by unfold rN; rw [if_neg he]
  have h3 : rB l (p, e) = (false, p, e) := by unfold rB; rw [if_neg he]
  unfold fromF
  simp only [h1, h2, h3, Int.toNat_zero, linesF, netsF]
  rw [if_neg (fun h => he h.1), if_neg he]
theorem from_end (l : List Int) : fromF l (l.length, 0) = (z28, 40, l.length, 40) := by
  have h0 : rI l 0 1073741824 (l.length, 0) = (0, l.length, 40) := by
    unfold rI rdInt rdNum
    rw [List.drop_length]
    simp [scan]
  have h1 : ∀ lo hi, rI l lo hi (l.length, 40) = (0, l.length, 40) := fun lo hi => by unfold rI; rw [if_neg (show ¬ (40 : Int) = 0 by decide)]
  have h2 : rN l (l.length, 40) = (0, l.length, 40) := by unfold rN; rw [if_neg (show ¬ (40 : Int) = 0 by decide)]
  have h3 : rB l (l.length, 40) = (false, l.length, 40) := by unfold rB; rw [if_neg (show ¬ (40 : Int) = 0 by decide)]
  unfold fromF
  simp only [h0, h1, h2, h3, Int.toNat_zero, linesF, netsF]
  rw [if_neg (fun h => absurd h.1 (by decide)), if_neg (by decide)]
theorem mem_rdT {l : List S28} {i : Nat} (h : i < l.length) : rd_T28 l (i : Int) ∈ l := by rw [rdT_get h]; exact List.getElem_mem _
theorem hl9_ {a b c : Nat} (h : a ≤ 41500 * b) (h2 : b ≤ c) (h3 : c ≤ 10) : a ≤ 900000 := by omega
theorem hl10_ {a b c : Nat} (h : a ≤ 41500 * b) (h2 : b ≤ c) (h3 : c ≤ 10) : a ≤ 1000000 := by omega
theorem cell_bel {w w' : World} {a : Addr} {v : Value} (h : w.cell? a = some v) (hb : Below w.heap.size w w') : w'.cell? a = some v :=
  (cell_of_heap (hb.block _ (World.block_lt_of_cell? _ _ h))).trans h
theorem nk2r_ {i n gk : Nat} (hi : i < n) (h : i + gk = n + 1) : (i + 1 ≤ n ∧ i + 1 + (gk - 1) = n + 1) ∧ 0 < gk := by omega
set_option maxHeartbeats 8000000 in
set_option maxRecDepth 100000 in
theorem MsgRows_hand (A0 : Option Addr) (c0 : Nat) (l : List S28) (w : World) (hr : Kd.C k28 w A0 l.length l) (hc : l.length ≤ c0) (g0 : l.length * 120 ≤ 140737488351232 ∧ ∀ x ∈ l, G28 x) :
    Calls Try.prog 5 #[.slice A0 l.length c0] w fun e w' => e = .returned (.bool true) ∧ Below w.heap.size w w' := by
  have B0 := Aside0.mk (Below.refl w.heap.size w)
  have HR := Aside0.mk hr; have HCAP := Aside0.mk hc
  have HW := Aside0.mk (show ∀ x ∈ l, Wide x from fun x hx => wide_of (g0.2 x hx))
  have HN := Aside0.mk (show ∀ x ∈ l, x.f8.length ≤ 4611686018427387904 ∧ x.f9.length ≤ 4611686018427387904 from fun x hx => by
    have h1 := (g0.2 x hx).2.2.2.2.2.2.2.2.1.1; have h2 := (g0.2 x hx).2.2.2.2.2.2.2.2.2.1; omega)
  clear hr hc g0
  go_enter Try.func5, Try.ntmps5
  go_wp2_with fail
  refine (says_calls w).mono ?_; rintro x w1 ⟨rfl, hb⟩; have B1 := Aside0.mk hb; clear hb
  by_cases h10 : l.length > 10
  · have d1 : decide (10 < (l.length : Int)) = true := decide_eq_true (by omega)
    have d2 : decide (10 < l.length) = true := decide_eq_true h10
    have d3 : (10 < l.length) = True := eq_true h10
    clear h10
    go_wp2_with fail
    go_ret
    exact ⟨rfl, B1.out⟩
  have d1 : decide (10 < (l.length : Int)) = false := decide_eq_false (by omega)
  have d2 : decide (10 < l.length) = false := decide_eq_false h10
  have d3 : (10 < l.length) = False := eq_false h10
  have H10 := Aside0.mk (show l.length ≤ 10 by omega)
  clear h10
  go_wp2_with fail
  clear d1 d2 d3
  go_loopg [3, 24] (l.length + 1) (fun kq v3 v24 w' => ∃ (i : Nat) (A : Option Addr) (c : Nat), v3 = .slice A (bsl l i).length c ∧ v24 = .int .i64 (i : Int) ∧ Aside0 (i ≤ l.length ∧ i + kq = l.length + 1) ∧ Aside0 ((bsl l i).length ≤ c ∧ Kd.C (Kd.int .u8) w' A (bsl l i).length (bsl l i)) ∧ Aside0 (∀ j, j < i → wcode (rd_T28 l (j : Int)) = 0) ∧ Aside0 (Below w.heap.size w w'))
  case atStart => exact ⟨0, none, 0, rfl, rfl, ⟨by omega, by omega⟩, ⟨Nat.le_refl _, Kd.C_nil _ _⟩, ⟨fun j hj => absurd hj (Nat.not_lt_zero _)⟩, ⟨B1.out⟩⟩
  case round =>
    obtain ⟨i, A, c, rfl, rfl, HI, HO, HC, BW⟩ := hrel
    by_cases hi : i < l.length
    · have d1 : decide ((i : Int) < (l.length : Int)) = true := decide_eq_true (by omega)
      have d2 : decide (i < l.length) = true := decide_eq_true hi
      have d3 : (i < l.length) = True := eq_true hi
      have hi0 : (0 : Int) ≤ (i : Int) := by omega
      have hi1 : (i : Int) < (l.length : Int) := by omega
      obtain ⟨ad, A9, c9, A10, c10, e1, x0, x1, x2, x3, x4, x5, x6, x7, x8, x9, x10, l9, g9, l10, g10⟩ := at_T28 HR.out (i : Int) hi0 hi1
      subst e1
      have hbl := bsl_len HW.out i (Nat.le_of_lt hi) HC.out
      have hbn := bsl_next hi
      have hwq := HW.out _ (mem_rdT hi)
      have hnq := HN.out _ (mem_rdT hi)
      obtain ⟨q, hq⟩ : ∃ q, q = rd_T28 l (i : Int) := ⟨_, rfl⟩
      rw [← hq] at x0 x1 x2 x3 x4 x5 x6 x7 x8 x9 x10 l9 g9 l10 g10 hbn hwq hnq
      rw [Int.toNat_natCast] at x0 x1 x2 x3 x4 x5 x6 x7 x8 x9 x10
      replace x0 := cell_bel x0 BW.out; replace x1 := cell_bel x1 BW.out; replace x2 := cell_bel x2 BW.out; replace x3 := cell_bel x3 BW.out; replace x4 := cell_bel x4 BW.out; replace x5 := cell_bel x5 BW.out; replace x6 := cell_bel x6 BW.out; replace x7 := cell_bel x7 BW.out; replace x8 := cell_bel x8 BW.out; replace x9 := cell_bel x9 BW.out; replace x10 := cell_bel x10 BW.out
      have HQ := Aside0.mk hq; have HBL := Aside0.mk (hl9_ hbl (Nat.le_of_lt hi) H10.out); have HBN := Aside0.mk hbn; have WQ := Aside0.mk hwq; have NQ := Aside0.mk hnq
      have R9 := Aside0.mk g9; have R10 := Aside0.mk g10; have L9 := Aside0.mk l9; have L10 := Aside0.mk l10
      have b2 : wrap64 ((i : Int) + 1) = ((i + 1 : Nat) : Int) := by have := H10.out; unfold wrap64; omega
      have q1 := eq_true hi0; have q2 := eq_true hi1; have q3 : decide ((0 : Int) ≤ (i : Int)) = true := decide_eq_true hi0
      have NK := Aside0.mk (nk2r_ hi HI.out.2)
      have HI2 := Aside0.mk hi
      obtain ⟨rf, hrf⟩ : ∃ r, contralaw11_fits.f q.f0 q.f1.f0 q.f1.f1 q.f2 q.f3 q.f4 q.f5 q.f6 q.f7 q.f8 q.f9 = some r := by unfold contralaw11_fits.f; (repeat' split) <;> exact ⟨_, rfl⟩
      have HF := Aside0.mk hrf
      clear hi hq hbl hbn hwq hnq g9 g10 l9 l10 hrf
      go_wp2_with (first | ((with_reducible refine gate_dst (N := 5) rfl ?_); refine box_event ?hg (N := 5) ?hd (cs := #[.int .i64 0, .int .i64 0, .int .i64 0, .int .i64 0, .int .i64 0, .int .i64 0, .int .i64 0, .int .i64 0, .bool false, .slice none 0 0, .slice none 0 0]) (t := 28) ?hr ?_; (case hd => rfl); (case hg => rfl); (case hr => first | (go_simp; done) | (go_simp; rfl)); intro gq hg w5m hbox hb; have ZB := Aside0.mk hb; have ZX := Aside0.mk hbox; have X5g := Aside0.mk (show wr.heap.size ≤ gq from by rw [hg]; exact Nat.le_refl _); have x_zc0 : w5m.cell? ⟨gq, 0, none⟩ = some (.int .i64 0) := (blk_cell ZX.out 0).trans rfl; have x_zf0 := blk_frozen ZX.out 0; have x_zc1 : w5m.cell? ⟨gq, 1, none⟩ = some (.int .i64 0) := (blk_cell ZX.out 1).trans rfl; have x_zf1 := blk_frozen ZX.out 1; have x_zc2 : w5m.cell? ⟨gq, 2, none⟩ = some (.int .i64 0) := (blk_cell ZX.out 2).trans rfl; have x_zf2 := blk_frozen ZX.out 2; have x_zc3 : w5m.cell? ⟨gq, 3, none⟩ = some (.int .i64 0) := (blk_cell ZX.out 3).trans rfl; have x_zf3 := blk_frozen ZX.out 3; have x_zc4 : w5m.cell? ⟨gq, 4, none⟩ = some (.int .i64 0) := (blk_cell ZX.out 4).trans rfl; have x_zf4 := blk_frozen ZX.out 4; have x_zc5 : w5m.cell? ⟨gq, 5, none⟩ = some (.int .i64 0) := (blk_cell ZX.out 5).trans rfl; have x_zf5 := blk_frozen ZX.out 5; have x_zc6 : w5m.cell? ⟨gq, 6, none⟩ = some (.int .i64 0) := (blk_cell ZX.out 6).trans rfl; have x_zf6 := blk_frozen ZX.out 6; have x_zc7 : w5m.cell? ⟨gq, 7, none⟩ = some (.int .i64 0) := (blk_cell ZX.out 7).trans rfl; have x_zf7 := blk_frozen ZX.out 7; have x_zc8 : w5m.cell? ⟨gq, 8, none⟩ = some (.bool false) := (blk_cell ZX.out 8).trans rfl; have x_zf8 := blk_frozen ZX.out 8; have x_zc9 : w5m.cell? ⟨gq, 9, none⟩ = some (.slice none 0 0) := (blk_cell ZX.out 9).trans rfl; have x_zf9 := blk_frozen ZX.out 9; have x_zc10 : w5m.cell? ⟨gq, 10, none⟩ = some (.slice none 0 0) := (blk_cell ZX.out 10).trans rfl; have x_zf10 := blk_frozen ZX.out 10; clear hb hg hbox) | ((with_reducible refine gate_dst (N := 28) rfl ?_); have NB5 := Aside0.mk (below_setB (below_setB (below_setB (below_setB (below_setB (below_setB (below_setB (below_setB (below_setB (below_setB (below_setB ZB.out (p := ⟨gq, 0, none⟩) X5g.out (.int .i64 q.f0)) (p := ⟨gq, 1, none⟩) X5g.out (.int .i64 q.f1.f0)) (p := ⟨gq, 2, none⟩) X5g.out (.int .i64 q.f1.f1)) (p := ⟨gq, 3, none⟩) X5g.out (.int .i64 q.f2)) (p := ⟨gq, 4, none⟩) X5g.out (.int .i64 q.f3)) (p := ⟨gq, 5, none⟩) X5g.out (.int .i64 q.f4)) (p := ⟨gq, 6, none⟩) X5g.out (.int .i64 q.f5)) (p := ⟨gq, 7, none⟩) X5g.out (.int .i64 q.f6)) (p := ⟨gq, 8, none⟩) X5g.out (.bool q.f7)) (p := ⟨gq, 9, none⟩) X5g.out (.slice A9 q.f8.length c9)) (p := ⟨gq, 10, none⟩) X5g.out (.slice A10 q.f9.length c10)); have X5 := Aside0.mk (blk_put (blk_put (blk_put (blk_put (blk_put (blk_put (blk_put (blk_put (blk_put (blk_put (blk_put ZX.out 0 (.int .i64 q.f0) (cs' := #[.int .i64 q.f0, .int .i64 0, .int .i64 0, .int .i64 0, .int .i64 0, .int .i64 0, .int .i64 0, .int .i64 0, .bool false, .slice none 0 0, .slice none 0 0]) rfl) 1 (.int .i64 q.f1.f0) (cs' := #[.int .i64 q.f0, .int .i64 q.f1.f0, .int .i64 0, .int .i64 0, .int .i64 0, .int .i64 0, .int .i64 0, .int .i64 0, .bool false, .slice none 0 0, .slice none 0 0]) rfl) 2 (.int .i64 q.f1.f1) (cs' := #[.int .i64 q.f0, .int .i64 q.f1.f0, .int .i64 q.f1.f1, .int .i64 0, .int .i64 0, .int .i64 0, .int .i64 0, .int .i64 0, .bool false, .slice none 0 0, .slice none 0 0]) rfl) 3 (.int .i64 q.f2) (cs' := #[.int .i64 q.f0, .int .i64 q.f1.f0, .int .i64 q.f1.f1, .int .i64 q.f2, .int .i64 0, .int .i64 0, .int .i64 0, .int .i64 0, .bool false, .slice none 0 0, .slice none 0 0]) rfl) 4 (.int .i64 q.f3) (cs' := #[.int .i64 q.f0, .int .i64 q.f1.f0, .int .i64 q.f1.f1, .int .i64 q.f2, .int .i64 q.f3, .int .i64 0, .int .i64 0, .int .i64 0, .bool false, .slice none 0 0, .slice none 0 0]) rfl) 5 (.int .i64 q.f4) (cs' := #[.int .i64 q.f0, .int .i64 q.f1.f0, .int .i64 q.f1.f1, .int .i64 q.f2, .int .i64 q.f3, .int .i64 q.f4, .int .i64 0, .int .i64 0, .bool false, .slice none 0 0, .slice none 0 0]) rfl) 6 (.int .i64 q.f5) (cs' := #[.int .i64 q.f0, .int .i64 q.f1.f0, .int .i64 q.f1.f1, .int .i64 q.f2, .int .i64 q.f3, .int .i64 q.f4, .int .i64 q.f5, .int .i64 0, .bool false, .slice none 0 0, .slice none 0 0]) rfl) 7 (.int .i64 q.f6) (cs' := #[.int .i64 q.f0, .int .i64 q.f1.f0, .int .i64 q.f1.f1, .int .i64 q.f2, .int .i64 q.f3, .int .i64 q.f4, .int .i64 q.f5, .int .i64 q.f6, .bool false, .slice none 0 0, .slice none 0 0]) rfl) 8 (.bool q.f7) (cs' := #[.int .i64 q.f0, .int .i64 q.f1.f0, .int .i64 q.f1.f1, .int .i64 q.f2, .int .i64 q.f3, .int .i64 q.f4, .int .i64 q.f5, .int .i64 q.f6, .bool q.f7, .slice none 0 0, .slice none 0 0]) rfl) 9 (.slice A9 q.f8.length c9) (cs' := #[.int .i64 q.f0, .int .i64 q.f1.f0, .int .i64 q.f1.f1, .int .i64 q.f2, .int .i64 q.f3, .int .i64 q.f4, .int .i64 q.f5, .int .i64 q.f6, .bool q.f7, .slice A9 q.f8.length c9, .slice none 0 0]) rfl) 10 (.slice A10 q.f9.length c10) (cs' := #[.int .i64 q.f0, .int .i64 q.f1.f0, .int .i64 q.f1.f1, .int .i64 q.f2, .int .i64 q.f3, .int .i64 q.f4, .int .i64 q.f5, .int .i64 q.f6, .bool q.f7, .slice A9 q.f8.length c9, .slice A10 q.f9.length c10]) rfl); clear ZB ZX x_zc0 x_zf0 x_zc1 x_zf1 x_zc2 x_zf2 x_zc3 x_zf3 x_zc4 x_zf4 x_zc5 x_zf5 x_zc6 x_zf6 x_zc7 x_zf7 x_zc8 x_zf8 x_zc9 x_zf9 x_zc10 x_zf10; generalize (((((((((((w5m.setCell ⟨gq, 0, none⟩ (.int .i64 q.f0)).setCell ⟨gq, 1, none⟩ (.int .i64 q.f1.f0)).setCell ⟨gq, 2, none⟩ (.int .i64 q.f1.f1)).setCell ⟨gq, 3, none⟩ (.int .i64 q.f2)).setCell ⟨gq, 4, none⟩ (.int .i64 q.f3)).setCell ⟨gq, 5, none⟩ (.int .i64 q.f4)).setCell ⟨gq, 6, none⟩ (.int .i64 q.f5)).setCell ⟨gq, 7, none⟩ (.int .i64 q.f6)).setCell ⟨gq, 8, none⟩ (.bool q.f7)).setCell ⟨gq, 9, none⟩ (.slice A9 q.f8.length c9)).setCell ⟨gq, 10, none⟩ (.slice A10 q.f9.length c10)) = w5 at NB5 X5 ⊢; have B5 := Aside0.mk (below_step BW.out NB5.out); have x_c0 : w5.cell? ⟨gq, 0, none⟩ = some (.int .i64 q.f0) := (blk_cell X5.out 0).trans rfl; have x_f0 := blk_frozen X5.out 0; have x_c1 : w5.cell? ⟨gq, 1, none⟩ = some (.int .i64 q.f1.f0) := (blk_cell X5.out 1).trans rfl; have x_f1 := blk_frozen X5.out 1; have x_c2 : w5.cell? ⟨gq, 2, none⟩ = some (.int .i64 q.f1.f1) := (blk_cell X5.out 2).trans rfl; have x_f2 := blk_frozen X5.out 2; have x_c3 : w5.cell? ⟨gq, 3, none⟩ = some (.int .i64 q.f2) := (blk_cell X5.out 3).trans rfl; have x_f3 := blk_frozen X5.out 3; have x_c4 : w5.cell? ⟨gq, 4, none⟩ = some (.int .i64 q.f3) := (blk_cell X5.out 4).trans rfl; have x_f4 := blk_frozen X5.out 4; have x_c5 : w5.cell? ⟨gq, 5, none⟩ = some (.int .i64 q.f4) := (blk_cell X5.out 5).trans rfl; have x_f5 := blk_frozen X5.out 5; have x_c6 : w5.cell? ⟨gq, 6, none⟩ = some (.int .i64 q.f5) := (blk_cell X5.out 6).trans rfl; have x_f6 := blk_frozen X5.out 6; have x_c7 : w5.cell? ⟨gq, 7, none⟩ = some (.int .i64 q.f6) := (blk_cell X5.out 7).trans rfl; have x_f7 := blk_frozen X5.out 7; have x_c8 : w5.cell? ⟨gq, 8, none⟩ = some (.bool q.f7) := (blk_cell X5.out 8).trans rfl; have x_f8 := blk_frozen X5.out 8; have x_c9 : w5.cell? ⟨gq, 9, none⟩ = some (.slice A9 q.f8.length c9) := (blk_cell X5.out 9).trans rfl; have x_f9 := blk_frozen X5.out 9; have x_c10 : w5.cell? ⟨gq, 10, none⟩ = some (.slice A10 q.f9.length c10) := (blk_cell X5.out 10).trans rfl; have x_f10 := blk_frozen X5.out 10))
      clear x0 x1 x2 x3 x4 x5 x6 x7 x8 x9 x10
      refine (contralaw11_fits.calls q.f0 q.f1.f0 q.f1.f1 q.f2 q.f3 q.f4 q.f5 q.f6 q.f7 A9 c9 q.f8 A10 c10 q.f9 rf w5 (Kd.C_below R9.out B5.out) L9.out (Kd.C_below R10.out B5.out) L10.out HF.out).mono ?_; rintro x w6 ⟨rfl, hb⟩; have B6 := Aside0.mk (below_step B5.out hb); have NB6 := Aside0.mk (below_step NB5.out hb); have X6 := Aside0.mk (blk_below X5.out hb); clear hb x_c0 x_f0 x_c1 x_f1 x_c2 x_f2 x_c3 x_f3 x_c4 x_f4 x_c5 x_f5 x_c6 x_f6 x_c7 x_f7 x_c8 x_f8 x_c9 x_f9 x_c10 x_f10; have x_c0 : w6.cell? ⟨gq, 0, none⟩ = some (.int .i64 q.f0) := (blk_cell X6.out 0).trans rfl; have x_f0 := blk_frozen X6.out 0; have x_c1 : w6.cell? ⟨gq, 1, none⟩ = some (.int .i64 q.f1.f0) := (blk_cell X6.out 1).trans rfl; have x_f1 := blk_frozen X6.out 1; have x_c2 : w6.cell? ⟨gq, 2, none⟩ = some (.int .i64 q.f1.f1) := (blk_cell X6.out 2).trans rfl; have x_f2 := blk_frozen X6.out 2; have x_c3 : w6.cell? ⟨gq, 3, none⟩ = some (.int .i64 q.f2) := (blk_cell X6.out 3).trans rfl; have x_f3 := blk_frozen X6.out 3; have x_c4 : w6.cell? ⟨gq, 4, none⟩ = some (.int .i64 q.f3) := (blk_cell X6.out 4).trans rfl; have x_f4 := blk_frozen X6.out 4; have x_c5 : w6.cell? ⟨gq, 5, none⟩ = some (.int .i64 q.f4) := (blk_cell X6.out 5).trans rfl; have x_f5 := blk_frozen X6.out 5; have x_c6 : w6.cell? ⟨gq, 6, none⟩ = some (.int .i64 q.f5) := (blk_cell X6.out 6).trans rfl; have x_f6 := blk_frozen X6.out 6; have x_c7 : w6.cell? ⟨gq, 7, none⟩ = some (.int .i64 q.f6) := (blk_cell X6.out 7).trans rfl; have x_f7 := blk_frozen X6.out 7; have x_c8 : w6.cell? ⟨gq, 8, none⟩ = some (.bool q.f7) := (blk_cell X6.out 8).trans rfl; have x_f8 := blk_frozen X6.out 8; have x_c9 : w6.cell? ⟨gq, 9, none⟩ = some (.slice A9 q.f8.length c9) := (blk_cell X6.out 9).trans rfl; have x_f9 := blk_frozen X6.out 9; have x_c10 : w6.cell? ⟨gq, 10, none⟩ = some (.slice A10 q.f9.length c10) := (blk_cell X6.out 10).trans rfl; have x_f10 := blk_frozen X6.out 10
      cases rf
      · clear HF
        go_wp2_with fail
        go_ret
        exact ⟨rfl, B6.out⟩
      go_wp2_with fail
      refine (msg_Write (m := q) (A0 := A) (c0 := c) (l0 := bsl l i) (A8 := A9) (C8 := c9) (A9 := A10) (C9 := c10) (Kd.C_below HO.out.2 NB6.out) HO.out.1 HBL.out (Kd.C_below R9.out B6.out) L9.out (Kd.C_below R10.out B6.out) L10.out WQ.out NQ.out.1 NQ.out.2).mono ?_
      intro x w7 hQ
      obtain ⟨hB, h⟩ := hQ
      have B7 := Aside0.mk (below_step B6.out hB)
      clear hB x_c0 x_f0 x_c1 x_f1 x_c2 x_f2 x_c3 x_f3 x_c4 x_f4 x_c5 x_f5 x_c6 x_f6 x_c7 x_f7 x_c8 x_f8 x_c9 x_f9 x_c10 x_f10 HF
      rcases h with ⟨rfl, hne⟩ | ⟨v, rfl, hO, hc0⟩
      · have z1 : (wcode q != 0) = true := bne_iff_ne.mpr hne
        clear hne
        go_wp2_with fail
        go_ret
        exact ⟨rfl, B7.out⟩
      obtain ⟨T, hT⟩ : ∃ T, T = bsl l (i + 1) := ⟨_, rfl⟩
      rw [← HBN.out, ← hT] at hO
      obtain ⟨A7, c7, e7, hc7, hC7⟩ := Kd.R_reads hO
      subst e7
      have C7 := Aside0.mk (show T.length ≤ c7 ∧ Kd.C (Kd.int .u8) w7 A7 T.length T from ⟨hc7, hC7⟩); have HC0 := Aside0.mk hc0; have HT := Aside0.mk hT
      clear hO hc7 hC7 hc0 hT
      go_wp2_with fail
      go_roundg (gk - 1)
      case measure => have := NK.out.2; omega
      case rel => exact ⟨i + 1, A7, c7, by rw [← HT.out], by (first | rw [b2] | rfl), ⟨NK.out.1⟩, ⟨by rw [← HT.out]; exact C7.out⟩, ⟨fun j hj => by rcases Nat.lt_or_eq_of_le (Nat.le_of_lt_succ hj) with h | h; (exact HC.out j h); (rw [h, ← HQ.out]; exact HC0.out)⟩, ⟨B7.out⟩⟩
    · have d1 : decide ((i : Int) < (l.length : Int)) = false := decide_eq_false (by omega)
      have d2 : decide (i < l.length) = false := decide_eq_false hi
      have d3 : (i < l.length) = False := eq_false hi
      have hie : i = l.length := Nat.le_antisymm HI.out.1 (Nat.not_lt.mp hi)
      have HBL := Aside0.mk (hl10_ (bsl_len HW.out i HI.out.1 HC.out) HI.out.1 H10.out)
      obtain ⟨T, hT⟩ : ∃ T, T = bsl l i := ⟨_, rfl⟩
      rw [← hT] at HO HBL ⊢
      rw [hie] at hT
      have HT := Aside0.mk hT
      have HC1 := Aside0.mk (show ∀ j, j < l.length → wcode (rd_T28 l (j : Int)) = 0 from fun j hj => HC.out j (by rw [hie]; exact hj))
      have BY := Aside0.mk (show Bytes T by rw [hT]; exact bsl_bytes _ _)
      have B8 := Aside0.mk BW.out
      clear hi hie hT HC HI
      generalize wr = w8 at HO B8 ⊢
      clear BW
      go_wp2_with fail
      refine (code_Read.calls A c T w8 HO.out.2 HO.out.1 (by have := HBL.out; omega)).mono ?_; rintro x w9 ⟨g, rfl, hg, hR, hB⟩; have R9 := Aside0.mk hR.zero; have B9 := Aside0.mk (below_step B8.out hB); have G9 := Aside0.mk (Nat.le_trans B8.out.size hg); clear hg hR hB
      clear d1 d2 d3
      go_wp2_with fail
      go_loopg [45] (l.length + 1) (fun kq v45 w' => ∃ (i : Nat), v45 = .int .i64 (i : Int) ∧ Aside0 (i ≤ l.length ∧ i + kq = l.length + 1) ∧ Aside0 (IsR 0 w' g T ((bsl l i).length : Int) 0) ∧ Aside0 (Below w.heap.size w w'))
      case atStart => exact ⟨0, rfl, ⟨by omega, by omega⟩, ⟨R9.out⟩, ⟨B9.out⟩⟩
      case round =>
        obtain ⟨i, rfl, HI, HR3, BW⟩ := hrel
        by_cases hi : i < l.length
        · have d1 : decide ((i : Int) < (l.length : Int)) = true := decide_eq_true (by omega)
          have d2 : decide (i < l.length) = true := decide_eq_true hi
          have d3 : (i < l.length) = True := eq_true hi
          have hi0 : (0 : Int) ≤ (i : Int) := by omega
          have hi1 : (i : Int) < (l.length : Int) := by omega
          obtain ⟨ad, A9, c9, A10, c10, e1, x0, x1, x2, x3, x4, x5, x6, x7, x8, x9, x10, l9, g9, l10, g10⟩ := at_T28 HR.out (i : Int) hi0 hi1
          subst e1
          have hcq := HC1.out i hi
          have hwq := HW.out _ (mem_rdT hi)
          have hnq := HN.out _ (mem_rdT hi)
          have hbn := bsl_next hi
          have hbd := bsl_drop hi
          rw [← HT.out] at hbd
          obtain ⟨q, hq⟩ : ∃ q, q = rd_T28 l (i : Int) := ⟨_, rfl⟩
          rw [← hq] at x0 x1 x2 x3 x4 x5 x6 x7 x8 x9 x10 l9 g9 l10 g10 hbn hwq hnq hcq hbd
          rw [Int.toNat_natCast] at x0 x1 x2 x3 x4 x5 x6 x7 x8 x9 x10
          replace x0 := cell_bel x0 BW.out; replace x1 := cell_bel x1 BW.out; replace x2 := cell_bel x2 BW.out; replace x3 := cell_bel x3 BW.out; replace x4 := cell_bel x4 BW.out; replace x5 := cell_bel x5 BW.out; replace x6 := cell_bel x6 BW.out; replace x7 := cell_bel x7 BW.out; replace x8 := cell_bel x8 BW.out; replace x9 := cell_bel x9 BW.out; replace x10 := cell_bel x10 BW.out
          have hfb := from_body hcq hwq hbd
          have hle : (bsl l i).length ≤ T.length := by
            have h1 := congrArg List.length hbd
            have h2 := body_pos q
            rw [List.length_drop, List.length_append] at h1
            omega
          have hlen : (bsl l i).length + (body q).length = (bsl l (i + 1)).length := by rw [hbn, List.length_append]
          rw [hlen] at hfb
          have HLE := Aside0.mk hle; have HFB := Aside0.mk hfb; have NQ := Aside0.mk hnq
          have R9_ := Aside0.mk g9; have R10 := Aside0.mk g10; have L9 := Aside0.mk l9; have L10 := Aside0.mk l10
          have b2 : wrap64 ((i : Int) + 1) = ((i + 1 : Nat) : Int) := by have := H10.out; unfold wrap64; omega
          have q1 := eq_true hi0; have q2 := eq_true hi1; have q3 : decide ((0 : Int) ≤ (i : Int)) = true := decide_eq_true hi0
          have NK := Aside0.mk (nk2r_ hi HI.out.2)
          clear hi hq hbn hwq hnq hcq hbd hfb hle hlen g9 g10 l9 l10
          go_wp2_with (first | ((with_reducible refine gate_dst (N := 10) rfl ?_); refine box_event ?hg (N := 10) ?hd (cs := #[.int .i64 0, .int .i64 0, .int .i64 0, .int .i64 0, .int .i64 0, .int .i64 0, .int .i64 0, .int .i64 0, .bool false, .slice none 0 0, .slice none 0 0]) (t := 28) ?hr ?_; (case hd => rfl); (case hg => rfl); (case hr => first | (go_simp; done) | (go_simp; rfl)); intro gq hg w10m hbox hb; have ZB := Aside0.mk hb; have ZX := Aside0.mk hbox; have X10g := Aside0.mk (show wr.heap.size ≤ gq from by rw [hg]; exact Nat.le_refl _); have x_zc0 : w10m.cell? ⟨gq, 0, none⟩ = some (.int .i64 0) := (blk_cell ZX.out 0).trans rfl; have x_zf0 := blk_frozen ZX.out 0; have x_zc1 : w10m.cell? ⟨gq, 1, none⟩ = some (.int .i64 0) := (blk_cell ZX.out 1).trans rfl; have x_zf1 := blk_frozen ZX.out 1; have x_zc2 : w10m.cell? ⟨gq, 2, none⟩ = some (.int .i64 0) := (blk_cell ZX.out 2).trans rfl; have x_zf2 := blk_frozen ZX.out 2; have x_zc3 : w10m.cell? ⟨gq, 3, none⟩ = some (.int .i64 0) := (blk_cell ZX.out 3).trans rfl; have x_zf3 := blk_frozen ZX.out 3; have x_zc4 : w10m.cell? ⟨gq, 4, none⟩ = some (.int .i64 0) := (blk_cell ZX.out 4).trans rfl; have x_zf4 := blk_frozen ZX.out 4; have x_zc5 : w10m.cell? ⟨gq, 5, none⟩ = some (.int .i64 0) := (blk_cell ZX.out 5).trans rfl; have x_zf5 := blk_frozen ZX.out 5; have x_zc6 : w10m.cell? ⟨gq, 6, none⟩ = some (.int .i64 0) := (blk_cell ZX.out 6).trans rfl; have x_zf6 := blk_frozen ZX.out 6; have x_zc7 : w10m.cell? ⟨gq, 7, none⟩ = some (.int .i64 0) := (blk_cell ZX.out 7).trans rfl; have x_zf7 := blk_frozen ZX.out 7; have x_zc8 : w10m.cell? ⟨gq, 8, none⟩ = some (.bool false) := (blk_cell ZX.out 8).trans rfl; have x_zf8 := blk_frozen ZX.out 8; have x_zc9 : w10m.cell? ⟨gq, 9, none⟩ = some (.slice none 0 0) := (blk_cell ZX.out 9).trans rfl; have x_zf9 := blk_frozen ZX.out 9; have x_zc10 : w10m.cell? ⟨gq, 10, none⟩ = some (.slice none 0 0) := (blk_cell ZX.out 10).trans rfl; have x_zf10 := blk_frozen ZX.out 10; clear hb hg hbox))
          have NB10 := Aside0.mk (below_setB (below_setB (below_setB (below_setB (below_setB (below_setB (below_setB (below_setB (below_setB (below_setB (below_setB ZB.out (p := ⟨gq, 0, none⟩) X10g.out (.int .i64 q.f0)) (p := ⟨gq, 1, none⟩) X10g.out (.int .i64 q.f1.f0)) (p := ⟨gq, 2, none⟩) X10g.out (.int .i64 q.f1.f1)) (p := ⟨gq, 3, none⟩) X10g.out (.int .i64 q.f2)) (p := ⟨gq, 4, none⟩) X10g.out (.int .i64 q.f3)) (p := ⟨gq, 5, none⟩) X10g.out (.int .i64 q.f4)) (p := ⟨gq, 6, none⟩) X10g.out (.int .i64 q.f5)) (p := ⟨gq, 7, none⟩) X10g.out (.int .i64 q.f6)) (p := ⟨gq, 8, none⟩) X10g.out (.bool q.f7)) (p := ⟨gq, 9, none⟩) X10g.out (.slice A9 q.f8.length c9)) (p := ⟨gq, 10, none⟩) X10g.out (.slice A10 q.f9.length c10)); have X10 := Aside0.mk (blk_put (blk_put (blk_put (blk_put (blk_put (blk_put (blk_put (blk_put (blk_put (blk_put (blk_put ZX.out 0 (.int .i64 q.f0) (cs' := #[.int .i64 q.f0, .int .i64 0, .int .i64 0, .int .i64 0, .int .i64 0, .int .i64 0, .int .i64 0, .int .i64 0, .bool false, .slice none 0 0, .slice none 0 0]) rfl) 1 (.int .i64 q.f1.f0) (cs' := #[.int .i64 q.f0, .int .i64 q.f1.f0, .int .i64 0, .int .i64 0, .int .i64 0, .int .i64 0, .int .i64 0, .int .i64 0, .bool false, .slice none 0 0, .slice none 0 0]) rfl) 2 (.int .i64 q.f1.f1) (cs' := #[.int .i64 q.f0, .int .i64 q.f1.f0, .int .i64 q.f1.f1, .int .i64 0, .int .i64 0, .int .i64 0, .int .i64 0, .int .i64 0, .bool false, .slice none 0 0, .slice none 0 0]) rfl) 3 (.int .i64 q.f2) (cs' := #[.int .i64 q.f0, .int .i64 q.f1.f0, .int .i64 q.f1.f1, .int .i64 q.f2, .int .i64 0, .int .i64 0, .int .i64 0, .int .i64 0, .bool false, .slice none 0 0, .slice none 0 0]) rfl) 4 (.int .i64 q.f3) (cs' := #[.int .i64 q.f0, .int .i64 q.f1.f0, .int .i64 q.f1.f1, .int .i64 q.f2, .int .i64 q.f3, .int .i64 0, .int .i64 0, .int .i64 0, .bool false, .slice none 0 0, .slice none 0 0]) rfl) 5 (.int .i64 q.f4) (cs' := #[.int .i64 q.f0, .int .i64 q.f1.f0, .int .i64 q.f1.f1, .int .i64 q.f2, .int .i64 q.f3, .int .i64 q.f4, .int .i64 0, .int .i64 0, .bool false, .slice none 0 0, .slice none 0 0]) rfl) 6 (.int .i64 q.f5) (cs' := #[.int .i64 q.f0, .int .i64 q.f1.f0, .int .i64 q.f1.f1, .int .i64 q.f2, .int .i64 q.f3, .int .i64 q.f4, .int .i64 q.f5, .int .i64 0, .bool false, .slice none 0 0, .slice none 0 0]) rfl) 7 (.int .i64 q.f6) (cs' := #[.int .i64 q.f0, .int .i64 q.f1.f0, .int .i64 q.f1.f1, .int .i64 q.f2, .int .i64 q.f3, .int .i64 q.f4, .int .i64 q.f5, .int .i64 q.f6, .bool false, .slice none 0 0, .slice none 0 0]) rfl) 8 (.bool q.f7) (cs' := #[.int .i64 q.f0, .int .i64 q.f1.f0, .int .i64 q.f1.f1, .int .i64 q.f2, .int .i64 q.f3, .int .i64 q.f4, .int .i64 q.f5, .int .i64 q.f6, .bool q.f7, .slice none 0 0, .slice none 0 0]) rfl) 9 (.slice A9 q.f8.length c9) (cs' := #[.int .i64 q.f0, .int .i64 q.f1.f0, .int .i64 q.f1.f1, .int .i64 q.f2, .int .i64 q.f3, .int .i64 q.f4, .int .i64 q.f5, .int .i64 q.f6, .bool q.f7, .slice A9 q.f8.length c9, .slice none 0 0]) rfl) 10 (.slice A10 q.f9.length c10) (cs' := #[.int .i64 q.f0, .int .i64 q.f1.f0, .int .i64 q.f1.f1, .int .i64 q.f2, .int .i64 q.f3, .int .i64 q.f4, .int .i64 q.f5, .int .i64 q.f6, .bool q.f7, .slice A9 q.f8.length c9, .slice A10 q.f9.length c10]) rfl); clear ZB ZX x_zc0 x_zf0 x_zc1 x_zf1 x_zc2 x_zf2 x_zc3 x_zf3 x_zc4 x_zf4 x_zc5 x_zf5 x_zc6 x_zf6 x_zc7 x_zf7 x_zc8 x_zf8 x_zc9 x_zf9 x_zc10 x_zf10; generalize (((((((((((w10m.setCell ⟨gq, 0, none⟩ (.int .i64 q.f0)).setCell ⟨gq, 1, none⟩ (.int .i64 q.f1.f0)).setCell ⟨gq, 2, none⟩ (.int .i64 q.f1.f1)).setCell ⟨gq, 3, none⟩ (.int .i64 q.f2)).setCell ⟨gq, 4, none⟩ (.int .i64 q.f3)).setCell ⟨gq, 5, none⟩ (.int .i64 q.f4)).setCell ⟨gq, 6, none⟩ (.int .i64 q.f5)).setCell ⟨gq, 7, none⟩ (.int .i64 q.f6)).setCell ⟨gq, 8, none⟩ (.bool q.f7)).setCell ⟨gq, 9, none⟩ (.slice A9 q.f8.length c9)).setCell ⟨gq, 10, none⟩ (.slice A10 q.f9.length c10)) = w10 at NB10 X10 ⊢; have B10 := Aside0.mk (below_step BW.out NB10.out); have R10_ := Aside0.mk (HR3.out.below NB10.out); 
          clear x0 x1 x2 x3 x4 x5 x6 x7 x8 x9 x10
          refine (msg_From (p0 := (bsl l i).length) (e0 := 0) R10_.out HBL.out BY.out HLE.out).mono ?_
          intro x w11 hcame
          obtain ⟨hK, hB, hR, v8, v9, hx, hO, hQ⟩ := hcame
          rw [HFB.out] at hR hx hO hQ
          dsimp only at hR hx hO hQ
          obtain ⟨D8, d8, e8⟩ := Kd.R_slice hO
          obtain ⟨D9, d9, e9⟩ := Kd.R_slice hQ
          subst e8 e9 hx
          have O11 := Aside0.mk (Kd.R_reads' hO).2.2; have Q11 := Aside0.mk (Kd.R_reads' hQ).2.2
          have R11 := Aside0.mk hR; have B11 := Aside0.mk (B10.out.trans (hB.mono G9.out)); have X11 := Aside0.mk (hK.blk X10.out (Nat.ne_of_gt (Nat.lt_of_lt_of_le HR3.out.lt X10g.out)) (by simp))
          clear hK hB hR hO hQ
          go_wp2_with (first | ((with_reducible refine gate_dst (N := 11) rfl ?_); refine box_event ?hg (N := 11) ?hd (cs := #[.int .i64 0, .int .i64 0, .int .i64 0, .int .i64 0, .int .i64 0, .int .i64 0, .int .i64 0, .int .i64 0, .bool false, .slice none 0 0, .slice none 0 0]) (t := 28) ?hr ?_; (case hd => rfl); (case hg => rfl); (case hr => first | (go_simp; done) | (go_simp; rfl)); intro gn hg w12m hbox hb; have ZB := Aside0.mk hb; have ZX := Aside0.mk hbox; have Y12g := Aside0.mk (show w11.heap.size ≤ gn from by rw [hg]; exact Nat.le_refl _); have y_zc0 : w12m.cell? ⟨gn, 0, none⟩ = some (.int .i64 0) := (blk_cell ZX.out 0).trans rfl; have y_zf0 := blk_frozen ZX.out 0; have y_zc1 : w12m.cell? ⟨gn, 1, none⟩ = some (.int .i64 0) := (blk_cell ZX.out 1).trans rfl; have y_zf1 := blk_frozen ZX.out 1; have y_zc2 : w12m.cell? ⟨gn, 2, none⟩ = some (.int .i64 0) := (blk_cell ZX.out 2).trans rfl; have y_zf2 := blk_frozen ZX.out 2; have y_zc3 : w12m.cell? ⟨gn, 3, none⟩ = some (.int .i64 0) := (blk_cell ZX.out 3).trans rfl; have y_zf3 := blk_frozen ZX.out 3; have y_zc4 : w12m.cell? ⟨gn, 4, none⟩ = some (.int .i64 0) := (blk_cell ZX.out 4).trans rfl; have y_zf4 := blk_frozen ZX.out 4; have y_zc5 : w12m.cell? ⟨gn, 5, none⟩ = some (.int .i64 0) := (blk_cell ZX.out 5).trans rfl; have y_zf5 := blk_frozen ZX.out 5; have y_zc6 : w12m.cell? ⟨gn, 6, none⟩ = some (.int .i64 0) := (blk_cell ZX.out 6).trans rfl; have y_zf6 := blk_frozen ZX.out 6; have y_zc7 : w12m.cell? ⟨gn, 7, none⟩ = some (.int .i64 0) := (blk_cell ZX.out 7).trans rfl; have y_zf7 := blk_frozen ZX.out 7; have y_zc8 : w12m.cell? ⟨gn, 8, none⟩ = some (.bool false) := (blk_cell ZX.out 8).trans rfl; have y_zf8 := blk_frozen ZX.out 8; have y_zc9 : w12m.cell? ⟨gn, 9, none⟩ = some (.slice none 0 0) := (blk_cell ZX.out 9).trans rfl; have y_zf9 := blk_frozen ZX.out 9; have y_zc10 : w12m.cell? ⟨gn, 10, none⟩ = some (.slice none 0 0) := (blk_cell ZX.out 10).trans rfl; have y_zf10 := blk_frozen ZX.out 10; clear hb hg hbox) | ((with_reducible refine gate_dst (N := 55) rfl ?_); have NB12 := Aside0.mk (below_setB (below_setB (below_setB (below_setB (below_setB (below_setB (below_setB (below_setB (below_setB (below_setB (below_setB ZB.out (p := ⟨gn, 0, none⟩) Y12g.out (.int .i64 q.f0)) (p := ⟨gn, 1, none⟩) Y12g.out (.int .i64 q.f1.f0)) (p := ⟨gn, 2, none⟩) Y12g.out (.int .i64 q.f1.f1)) (p := ⟨gn, 3, none⟩) Y12g.out (.int .i64 q.f2)) (p := ⟨gn, 4, none⟩) Y12g.out (.int .i64 q.f3)) (p := ⟨gn, 5, none⟩) Y12g.out (.int .i64 q.f4)) (p := ⟨gn, 6, none⟩) Y12g.out (.int .i64 q.f5)) (p := ⟨gn, 7, none⟩) Y12g.out (.int .i64 q.f6)) (p := ⟨gn, 8, none⟩) Y12g.out (.bool q.f7)) (p := ⟨gn, 9, none⟩) Y12g.out (.slice D8 q.f8.length d8)) (p := ⟨gn, 10, none⟩) Y12g.out (.slice D9 q.f9.length d9)); have Y12 := Aside0.mk (blk_put (blk_put (blk_put (blk_put (blk_put (blk_put (blk_put (blk_put (blk_put (blk_put (blk_put ZX.out 0 (.int .i64 q.f0) (cs' := #[.int .i64 q.f0, .int .i64 0, .int .i64 0, .int .i64 0, .int .i64 0, .int .i64 0, .int .i64 0, .int .i64 0, .bool false, .slice none 0 0, .slice none 0 0]) rfl) 1 (.int .i64 q.f1.f0) (cs' := #[.int .i64 q.f0, .int .i64 q.f1.f0, .int .i64 0, .int .i64 0, .int .i64 0, .int .i64 0, .int .i64 0, .int .i64 0, .bool false, .slice none 0 0, .slice none 0 0]) rfl) 2 (.int .i64 q.f1.f1) (cs' := #[.int .i64 q.f0, .int .i64 q.f1.f0, .int .i64 q.f1.f1, .int .i64 0, .int .i64 0, .int .i64 0, .int .i64 0, .int .i64 0, .bool false, .slice none 0 0, .slice none 0 0]) rfl) 3 (.int .i64 q.f2) (cs' := #[.int .i64 q.f0, .int .i64 q.f1.f0, .int .i64 q.f1.f1, .int .i64 q.f2, .int .i64 0, .int .i64 0, .int .i64 0, .int .i64 0, .bool false, .slice none 0 0, .slice none 0 0]) rfl) 4 (.int .i64 q.f3) (cs' := #[.int .i64 q.f0, .int .i64 q.f1.f0, .int .i64 q.f1.f1, .int .i64 q.f2, .int .i64 q.f3, .int .i64 0, .int .i64 0, .int .i64 0, .bool false, .slice none 0 0, .slice none 0 0]) rfl) 5 (.int .i64 q.f4) (cs' := #[.int .i64 q.f0, .int .i64 q.f1.f0, .int .i64 q.f1.f1, .int .i64 q.f2, .int .i64 q.f3, .int .i64 q.f4, .int .i64 0, .int .i64 0, .bool false, .slice none 0 0, .slice none 0 0]) rfl) 6 (.int .i64 q.f5) (cs' := #[.int .i64 q.f0, .int .i64 q.f1.f0, .int .i64 q.f1.f1, .int .i64 q.f2, .int .i64 q.f3, .int .i64 q.f4, .int .i64 q.f5, .int .i64 0, .bool false, .slice none 0 0, .slice none 0 0]) rfl) 7 (.int .i64 q.f6) (cs' := #[.int .i64 q.f0, .int .i64 q.f1.f0, .int .i64 q.f1.f1, .int .i64 q.f2, .int .i64 q.f3, .int .i64 q.f4, .int .i64 q.f5, .int .i64 q.f6, .bool false, .slice none 0 0, .slice none 0 0]) rfl) 8 (.bool q.f7) (cs' := #[.int .i64 q.f0, .int .i64 q.f1.f0, .int .i64 q.f1.f1, .int .i64 q.f2, .int .i64 q.f3, .int .i64 q.f4, .int .i64 q.f5, .int .i64 q.f6, .bool q.f7, .slice none 0 0, .slice none 0 0]) rfl) 9 (.slice D8 q.f8.length d8) (cs' := #[.int .i64 q.f0, .int .i64 q.f1.f0, .int .i64 q.f1.f1, .int .i64 q.f2, .int .i64 q.f3, .int .i64 q.f4, .int .i64 q.f5, .int .i64 q.f6, .bool q.f7, .slice D8 q.f8.length d8, .slice none 0 0]) rfl) 10 (.slice D9 q.f9.length d9) (cs' := #[.int .i64 q.f0, .int .i64 q.f1.f0, .int .i64 q.f1.f1, .int .i64 q.f2, .int .i64 q.f3, .int .i64 q.f4, .int .i64 q.f5, .int .i64 q.f6, .bool q.f7, .slice D8 q.f8.length d8, .slice D9 q.f9.length d9]) rfl); clear ZB ZX y_zc0 y_zf0 y_zc1 y_zf1 y_zc2 y_zf2 y_zc3 y_zf3 y_zc4 y_zf4 y_zc5 y_zf5 y_zc6 y_zf6 y_zc7 y_zf7 y_zc8 y_zf8 y_zc9 y_zf9 y_zc10 y_zf10; generalize (((((((((((w12m.setCell ⟨gn, 0, none⟩ (.int .i64 q.f0)).setCell ⟨gn, 1, none⟩ (.int .i64 q.f1.f0)).setCell ⟨gn, 2, none⟩ (.int .i64 q.f1.f1)).setCell ⟨gn, 3, none⟩ (.int .i64 q.f2)).setCell ⟨gn, 4, none⟩ (.int .i64 q.f3)).setCell ⟨gn, 5, none⟩ (.int .i64 q.f4)).setCell ⟨gn, 6, none⟩ (.int .i64 q.f5)).setCell ⟨gn, 7, none⟩ (.int .i64 q.f6)).setCell ⟨gn, 8, none⟩ (.bool q.f7)).setCell ⟨gn, 9, none⟩ (.slice D8 q.f8.length d8)).setCell ⟨gn, 10, none⟩ (.slice D9 q.f9.length d9)) = w12 at NB12 Y12 ⊢; have B12 := Aside0.mk (below_step B11.out NB12.out); have R12 := Aside0.mk (R11.out.below NB12.out); have X12 := Aside0.mk (blk_below X11.out NB12.out); have x_c0 : w12.cell? ⟨gq, 0, none⟩ = some (.int .i64 q.f0) := (blk_cell X12.out 0).trans rfl; have x_f0 := blk_frozen X12.out 0; have x_c1 : w12.cell? ⟨gq, 1, none⟩ = some (.int .i64 q.f1.f0) := (blk_cell X12.out 1).trans rfl; have x_f1 := blk_frozen X12.out 1; have x_c2 : w12.cell? ⟨gq, 2, none⟩ = some (.int .i64 q.f1.f1) := (blk_cell X12.out 2).trans rfl; have x_f2 := blk_frozen X12.out 2; have x_c3 : w12.cell? ⟨gq, 3, none⟩ = some (.int .i64 q.f2) := (blk_cell X12.out 3).trans rfl; have x_f3 := blk_frozen X12.out 3; have x_c4 : w12.cell? ⟨gq, 4, none⟩ = some (.int .i64 q.f3) := (blk_cell X12.out 4).trans rfl; have x_f4 := blk_frozen X12.out 4; have x_c5 : w12.cell? ⟨gq, 5, none⟩ = some (.int .i64 q.f4) := (blk_cell X12.out 5).trans rfl; have x_f5 := blk_frozen X12.out 5; have x_c6 : w12.cell? ⟨gq, 6, none⟩ = some (.int .i64 q.f5) := (blk_cell X12.out 6).trans rfl; have x_f6 := blk_frozen X12.out 6; have x_c7 : w12.cell? ⟨gq, 7, none⟩ = some (.int .i64 q.f6) := (blk_cell X12.out 7).trans rfl; have x_f7 := blk_frozen X12.out 7; have x_c8 : w12.cell? ⟨gq, 8, none⟩ = some (.bool q.f7) := (blk_cell X12.out 8).trans rfl; have x_f8 := blk_frozen X12.out 8; have x_c9 : w12.cell? ⟨gq, 9, none⟩ = some (.slice A9 q.f8.length c9) := (blk_cell X12.out 9).trans rfl; have x_f9 := blk_frozen X12.out 9; have x_c10 : w12.cell? ⟨gq, 10, none⟩ = some (.slice A10 q.f9.length c10) := (blk_cell X12.out 10).trans rfl; have x_f10 := blk_frozen X12.out 10; have y_c0 : w12.cell? ⟨gn, 0, none⟩ = some (.int .i64 q.f0) := (blk_cell Y12.out 0).trans rfl; have y_f0 := blk_frozen Y12.out 0; have y_c1 : w12.cell? ⟨gn, 1, none⟩ = some (.int .i64 q.f1.f0) := (blk_cell Y12.out 1).trans rfl; have y_f1 := blk_frozen Y12.out 1; have y_c2 : w12.cell? ⟨gn, 2, none⟩ = some (.int .i64 q.f1.f1) := (blk_cell Y12.out 2).trans rfl; have y_f2 := blk_frozen Y12.out 2; have y_c3 : w12.cell? ⟨gn, 3, none⟩ = some (.int .i64 q.f2) := (blk_cell Y12.out 3).trans rfl; have y_f3 := blk_frozen Y12.out 3; have y_c4 : w12.cell? ⟨gn, 4, none⟩ = some (.int .i64 q.f3) := (blk_cell Y12.out 4).trans rfl; have y_f4 := blk_frozen Y12.out 4; have y_c5 : w12.cell? ⟨gn, 5, none⟩ = some (.int .i64 q.f4) := (blk_cell Y12.out 5).trans rfl; have y_f5 := blk_frozen Y12.out 5; have y_c6 : w12.cell? ⟨gn, 6, none⟩ = some (.int .i64 q.f5) := (blk_cell Y12.out 6).trans rfl; have y_f6 := blk_frozen Y12.out 6; have y_c7 : w12.cell? ⟨gn, 7, none⟩ = some (.int .i64 q.f6) := (blk_cell Y12.out 7).trans rfl; have y_f7 := blk_frozen Y12.out 7; have y_c8 : w12.cell? ⟨gn, 8, none⟩ = some (.bool q.f7) := (blk_cell Y12.out 8).trans rfl; have y_f8 := blk_frozen Y12.out 8; have y_c9 : w12.cell? ⟨gn, 9, none⟩ = some (.slice D8 q.f8.length d8) := (blk_cell Y12.out 9).trans rfl; have y_f9 := blk_frozen Y12.out 9; have y_c10 : w12.cell? ⟨gn, 10, none⟩ = some (.slice D9 q.f9.length d9) := (blk_cell Y12.out 10).trans rfl; have y_f10 := blk_frozen Y12.out 10))
          refine (same_calls (m := q) (w := w12) (Kd.C_below O11.out NB12.out) (Kd.C_below Q11.out NB12.out) (Kd.C_below R9_.out B12.out) (Kd.C_below R10.out B12.out) NQ.out.1 NQ.out.2).mono ?_; rintro x w13 ⟨rfl, hb⟩; have B13 := Aside0.mk (below_step B12.out hb); have R13 := Aside0.mk (R12.out.below hb); clear hb x_c0 x_f0 x_c1 x_f1 x_c2 x_f2 x_c3 x_f3 x_c4 x_f4 x_c5 x_f5 x_c6 x_f6 x_c7 x_f7 x_c8 x_f8 x_c9 x_f9 x_c10 x_f10 y_c0 y_f0 y_c1 y_f1 y_c2 y_f2 y_c3 y_f3 y_c4 y_f4 y_c5 y_f5 y_c6 y_f6 y_c7 y_f7 y_c8 y_f8 y_c9 y_f9 y_c10 y_f10
          go_wp2_with fail
          go_roundg (gk - 1)
          case measure => have := NK.out.2; omega
          case rel => exact ⟨i + 1, by (first | rw [b2] | rfl), ⟨NK.out.1⟩, ⟨R13.out⟩, ⟨B13.out⟩⟩
        · have d1 : decide ((i : Int) < (l.length : Int)) = false := decide_eq_false (by omega)
          have d2 : decide (i < l.length) = false := decide_eq_false hi
          have d3 : (i < l.length) = False := eq_false hi
          have hie : i = l.length := Nat.le_antisymm HI.out.1 (Nat.not_lt.mp hi)
          have R10 := Aside0.mk (show IsR 0 wr g T (T.length : Int) 0 by have := HR3.out; rw [hie, ← HT.out] at this; exact this)
          have B10 := Aside0.mk BW.out
          clear hi hie HI HR3 BW
          generalize wr = w10 at R10 B10 ⊢
          go_wp2_with fail
          clear d1 d2 d3
          have hef := end_f T T.length 0 (Nat.le_refl _) (by have := HBL.out; omega)
          rw [if_neg (fun h => Nat.lt_irrefl _ h.1)] at hef
          have HEF := Aside0.mk hef
          clear hef
          refine (rd_End R10.out HEF.out).mono ?_; rintro x w11 ⟨rfl, hR, hb, hk⟩
          have R11 := Aside0.mk hR; have B11 := Aside0.mk (B10.out.trans (hb.mono G9.out)); clear hR hb hk
          go_wp2_with fail
          refine (msg_From (p0 := T.length) (e0 := 0) R11.out HBL.out BY.out (Nat.le_refl _)).mono ?_
          intro x w12 hcame
          obtain ⟨hK, hB, hR, v8, v9, hx, hO, hQ⟩ := hcame
          rw [from_end] at hR hx hO hQ
          dsimp only [z28, z24] at hR hx hO hQ
          obtain ⟨D8, d8, e8⟩ := Kd.R_slice hO
          obtain ⟨D9, d9, e9⟩ := Kd.R_slice hQ
          subst e8 e9 hx
          have R12 := Aside0.mk hR; have B12 := Aside0.mk (B11.out.trans (hB.mono G9.out))
          clear hK hB hR hO hQ
          dsimp only [List.length_nil]
          go_wp2_with (first | ((with_reducible refine gate_dst (N := 13) rfl ?_); refine box_event ?hg (N := 13) ?hd (cs := #[.int .i64 0, .int .i64 0, .int .i64 0, .int .i64 0, .int .i64 0, .int .i64 0, .int .i64 0, .int .i64 0, .bool false, .slice none 0 0, .slice none 0 0]) (t := 28) ?hr ?_; (case hd => rfl); (case hg => rfl); (case hr => first | (go_simp; done) | (go_simp; rfl)); intro g13 hg w13m hbox hb; have ZB := Aside0.mk hb; have ZX := Aside0.mk hbox; have X13g := Aside0.mk (show w12.heap.size ≤ g13 from by rw [hg]; exact Nat.le_refl _); have x_zc0 : w13m.cell? ⟨g13, 0, none⟩ = some (.int .i64 0) := (blk_cell ZX.out 0).trans rfl; have x_zf0 := blk_frozen ZX.out 0; have x_zc1 : w13m.cell? ⟨g13, 1, none⟩ = some (.int .i64 0) := (blk_cell ZX.out 1).trans rfl; have x_zf1 := blk_frozen ZX.out 1; have x_zc2 : w13m.cell? ⟨g13, 2, none⟩ = some (.int .i64 0) := (blk_cell ZX.out 2).trans rfl; have x_zf2 := blk_frozen ZX.out 2; have x_zc3 : w13m.cell? ⟨g13, 3, none⟩ = some (.int .i64 0) := (blk_cell ZX.out 3).trans rfl; have x_zf3 := blk_frozen ZX.out 3; have x_zc4 : w13m.cell? ⟨g13, 4, none⟩ = some (.int .i64 0) := (blk_cell ZX.out 4).trans rfl; have x_zf4 := blk_frozen ZX.out 4; have x_zc5 : w13m.cell? ⟨g13, 5, none⟩ = some (.int .i64 0) := (blk_cell ZX.out 5).trans rfl; have x_zf5 := blk_frozen ZX.out 5; have x_zc6 : w13m.cell? ⟨g13, 6, none⟩ = some (.int .i64 0) := (blk_cell ZX.out 6).trans rfl; have x_zf6 := blk_frozen ZX.out 6; have x_zc7 : w13m.cell? ⟨g13, 7, none⟩ = some (.int .i64 0) := (blk_cell ZX.out 7).trans rfl; have x_zf7 := blk_frozen ZX.out 7; have x_zc8 : w13m.cell? ⟨g13, 8, none⟩ = some (.bool false) := (blk_cell ZX.out 8).trans rfl; have x_zf8 := blk_frozen ZX.out 8; have x_zc9 : w13m.cell? ⟨g13, 9, none⟩ = some (.slice none 0 0) := (blk_cell ZX.out 9).trans rfl; have x_zf9 := blk_frozen ZX.out 9; have x_zc10 : w13m.cell? ⟨g13, 10, none⟩ = some (.slice none 0 0) := (blk_cell ZX.out 10).trans rfl; have x_zf10 := blk_frozen ZX.out 10; clear hb hg hbox))
          have NB13 := Aside0.mk (below_setB (below_setB (below_setB (below_setB (below_setB (below_setB (below_setB (below_setB (below_setB (below_setB (below_setB ZB.out (p := ⟨g13, 0, none⟩) X13g.out (.int .i64 0)) (p := ⟨g13, 1, none⟩) X13g.out (.int .i64 0)) (p := ⟨g13, 2, none⟩) X13g.out (.int .i64 0)) (p := ⟨g13, 3, none⟩) X13g.out (.int .i64 0)) (p := ⟨g13, 4, none⟩) X13g.out (.int .i64 0)) (p := ⟨g13, 5, none⟩) X13g.out (.int .i64 0)) (p := ⟨g13, 6, none⟩) X13g.out (.int .i64 0)) (p := ⟨g13, 7, none⟩) X13g.out (.int .i64 0)) (p := ⟨g13, 8, none⟩) X13g.out (.bool false)) (p := ⟨g13, 9, none⟩) X13g.out (.slice D8 0 d8)) (p := ⟨g13, 10, none⟩) X13g.out (.slice D9 0 d9)); have X13 := Aside0.mk (blk_put (blk_put (blk_put (blk_put (blk_put (blk_put (blk_put (blk_put (blk_put (blk_put (blk_put ZX.out 0 (.int .i64 0) (cs' := #[.int .i64 0, .int .i64 0, .int .i64 0, .int .i64 0, .int .i64 0, .int .i64 0, .int .i64 0, .int .i64 0, .bool false, .slice none 0 0, .slice none 0 0]) rfl) 1 (.int .i64 0) (cs' := #[.int .i64 0, .int .i64 0, .int .i64 0, .int .i64 0, .int .i64 0, .int .i64 0, .int .i64 0, .int .i64 0, .bool false, .slice none 0 0, .slice none 0 0]) rfl) 2 (.int .i64 0) (cs' := #[.int .i64 0, .int .i64 0, .int .i64 0, .int .i64 0, .int .i64 0, .int .i64 0, .int .i64 0, .int .i64 0, .bool false, .slice none 0 0, .slice none 0 0]) rfl) 3 (.int .i64 0) (cs' := #[.int .i64 0, .int .i64 0, .int .i64 0, .int .i64 0, .int .i64 0, .int .i64 0, .int .i64 0, .int .i64 0, .bool false, .slice none 0 0, .slice none 0 0]) rfl) 4 (.int .i64 0) (cs' := #[.int .i64 0, .int .i64 0, .int .i64 0, .int .i64 0, .int .i64 0, .int .i64 0, .int .i64 0, .int .i64 0, .bool false, .slice none 0 0, .slice none 0 0]) rfl) 5 (.int .i64 0) (cs' := #[.int .i64 0, .int .i64 0, .int .i64 0, .int .i64 0, .int .i64 0, .int .i64 0, .int .i64 0, .int .i64 0, .bool false, .slice none 0 0, .slice none 0 0]) rfl) 6 (.int .i64 0) (cs' := #[.int .i64 0, .int .i64 0, .int .i64 0, .int .i64 0, .int .i64 0, .int .i64 0, .int .i64 0, .int .i64 0, .bool false, .slice none 0 0, .slice none 0 0]) rfl) 7 (.int .i64 0) (cs' := #[.int .i64 0, .int .i64 0, .int .i64 0, .int .i64 0, .int .i64 0, .int .i64 0, .int .i64 0, .int .i64 0, .bool false, .slice none 0 0, .slice none 0 0]) rfl) 8 (.bool false) (cs' := #[.int .i64 0, .int .i64 0, .int .i64 0, .int .i64 0, .int .i64 0, .int .i64 0, .int .i64 0, .int .i64 0, .bool false, .slice none 0 0, .slice none 0 0]) rfl) 9 (.slice D8 0 d8) (cs' := #[.int .i64 0, .int .i64 0, .int .i64 0, .int .i64 0, .int .i64 0, .int .i64 0, .int .i64 0, .int .i64 0, .bool false, .slice D8 0 d8, .slice none 0 0]) rfl) 10 (.slice D9 0 d9) (cs' := #[.int .i64 0, .int .i64 0, .int .i64 0, .int .i64 0, .int .i64 0, .int .i64 0, .int .i64 0, .int .i64 0, .bool false, .slice D8 0 d8, .slice D9 0 d9]) rfl); clear ZB ZX x_zc0 x_zf0 x_zc1 x_zf1 x_zc2 x_zf2 x_zc3 x_zf3 x_zc4 x_zf4 x_zc5 x_zf5 x_zc6 x_zf6 x_zc7 x_zf7 x_zc8 x_zf8 x_zc9 x_zf9 x_zc10 x_zf10; generalize (((((((((((w13m.setCell ⟨g13, 0, none⟩ (.int .i64 0)).setCell ⟨g13, 1, none⟩ (.int .i64 0)).setCell ⟨g13, 2, none⟩ (.int .i64 0)).setCell ⟨g13, 3, none⟩ (.int .i64 0)).setCell ⟨g13, 4, none⟩ (.int .i64 0)).setCell ⟨g13, 5, none⟩ (.int .i64 0)).setCell ⟨g13, 6, none⟩ (.int .i64 0)).setCell ⟨g13, 7, none⟩ (.int .i64 0)).setCell ⟨g13, 8, none⟩ (.bool false)).setCell ⟨g13, 9, none⟩ (.slice D8 0 d8)).setCell ⟨g13, 10, none⟩ (.slice D9 0 d9)) = w13 at NB13 X13 ⊢; have B13 := Aside0.mk (below_step B12.out NB13.out); have R13 := Aside0.mk (R12.out.below NB13.out); 
          refine (msg_From (p0 := T.length) (e0 := 40) R13.out HBL.out BY.out (Nat.le_refl _)).mono ?_
          intro x w14 hcame
          obtain ⟨hK, hB, hR, v8, v9, hx, hO, hQ⟩ := hcame
          rw [from_bad (by decide)] at hR hx hO hQ
          dsimp only [z28, z24] at hR hx hO hQ
          obtain ⟨F8, f8, e8⟩ := Kd.R_slice hO
          obtain ⟨F9, f9, e9⟩ := Kd.R_slice hQ
          subst e8 e9 hx
          have B14 := Aside0.mk (B13.out.trans (hB.mono G9.out)); have X14 := Aside0.mk (hK.blk X13.out (Nat.ne_of_gt (Nat.lt_of_lt_of_le R12.out.lt X13g.out)) (by simp))
          clear hK hB hR hO hQ
          dsimp only [List.length_nil]
          go_wp2_with (first | ((with_reducible refine gate_dst (N := 15) rfl ?_); refine box_event ?hg (N := 15) ?hd (cs := #[.int .i64 0, .int .i64 0, .int .i64 0, .int .i64 0, .int .i64 0, .int .i64 0, .int .i64 0, .int .i64 0, .bool false, .slice none 0 0, .slice none 0 0]) (t := 28) ?hr ?_; (case hd => rfl); (case hg => rfl); (case hr => first | (go_simp; done) | (go_simp; rfl)); intro g15 hg w15m hbox hb; have ZB := Aside0.mk hb; have ZX := Aside0.mk hbox; have Y15g := Aside0.mk (show w14.heap.size ≤ g15 from by rw [hg]; exact Nat.le_refl _); have y_zc0 : w15m.cell? ⟨g15, 0, none⟩ = some (.int .i64 0) := (blk_cell ZX.out 0).trans rfl; have y_zf0 := blk_frozen ZX.out 0; have y_zc1 : w15m.cell? ⟨g15, 1, none⟩ = some (.int .i64 0) := (blk_cell ZX.out 1).trans rfl; have y_zf1 := blk_frozen ZX.out 1; have y_zc2 : w15m.cell? ⟨g15, 2, none⟩ = some (.int .i64 0) := (blk_cell ZX.out 2).trans rfl; have y_zf2 := blk_frozen ZX.out 2; have y_zc3 : w15m.cell? ⟨g15, 3, none⟩ = some (.int .i64 0) := (blk_cell ZX.out 3).trans rfl; have y_zf3 := blk_frozen ZX.out 3; have y_zc4 : w15m.cell? ⟨g15, 4, none⟩ = some (.int .i64 0) := (blk_cell ZX.out 4).trans rfl; have y_zf4 := blk_frozen ZX.out 4; have y_zc5 : w15m.cell? ⟨g15, 5, none⟩ = some (.int .i64 0) := (blk_cell ZX.out 5).trans rfl; have y_zf5 := blk_frozen ZX.out 5; have y_zc6 : w15m.cell? ⟨g15, 6, none⟩ = some (.int .i64 0) := (blk_cell ZX.out 6).trans rfl; have y_zf6 := blk_frozen ZX.out 6; have y_zc7 : w15m.cell? ⟨g15, 7, none⟩ = some (.int .i64 0) := (blk_cell ZX.out 7).trans rfl; have y_zf7 := blk_frozen ZX.out 7; have y_zc8 : w15m.cell? ⟨g15, 8, none⟩ = some (.bool false) := (blk_cell ZX.out 8).trans rfl; have y_zf8 := blk_frozen ZX.out 8; have y_zc9 : w15m.cell? ⟨g15, 9, none⟩ = some (.slice none 0 0) := (blk_cell ZX.out 9).trans rfl; have y_zf9 := blk_frozen ZX.out 9; have y_zc10 : w15m.cell? ⟨g15, 10, none⟩ = some (.slice none 0 0) := (blk_cell ZX.out 10).trans rfl; have y_zf10 := blk_frozen ZX.out 10; clear hb hg hbox) | ((with_reducible refine gate_dst (N := 77) rfl ?_); have NB15 := Aside0.mk (below_setB (below_setB (below_setB (below_setB (below_setB (below_setB (below_setB (below_setB (below_setB (below_setB (below_setB ZB.out (p := ⟨g15, 0, none⟩) Y15g.out (.int .i64 0)) (p := ⟨g15, 1, none⟩) Y15g.out (.int .i64 0)) (p := ⟨g15, 2, none⟩) Y15g.out (.int .i64 0)) (p := ⟨g15, 3, none⟩) Y15g.out (.int .i64 0)) (p := ⟨g15, 4, none⟩) Y15g.out (.int .i64 0)) (p := ⟨g15, 5, none⟩) Y15g.out (.int .i64 0)) (p := ⟨g15, 6, none⟩) Y15g.out (.int .i64 0)) (p := ⟨g15, 7, none⟩) Y15g.out (.int .i64 0)) (p := ⟨g15, 8, none⟩) Y15g.out (.bool false)) (p := ⟨g15, 9, none⟩) Y15g.out (.slice F8 0 f8)) (p := ⟨g15, 10, none⟩) Y15g.out (.slice F9 0 f9)); have Y15 := Aside0.mk (blk_put (blk_put (blk_put (blk_put (blk_put (blk_put (blk_put (blk_put (blk_put (blk_put (blk_put ZX.out 0 (.int .i64 0) (cs' := #[.int .i64 0, .int .i64 0, .int .i64 0, .int .i64 0, .int .i64 0, .int .i64 0, .int .i64 0, .int .i64 0, .bool false, .slice none 0 0, .slice none 0 0]) rfl) 1 (.int .i64 0) (cs' := #[.int .i64 0, .int .i64 0, .int .i64 0, .int .i64 0, .int .i64 0, .int .i64 0, .int .i64 0, .int .i64 0, .bool false, .slice none 0 0, .slice none 0 0]) rfl) 2 (.int .i64 0) (cs' := #[.int .i64 0, .int .i64 0, .int .i64 0, .int .i64 0, .int .i64 0, .int .i64 0, .int .i64 0, .int .i64 0, .bool false, .slice none 0 0, .slice none 0 0]) rfl) 3 (.int .i64 0) (cs' := #[.int .i64 0, .int .i64 0, .int .i64 0, .int .i64 0, .int .i64 0, .int .i64 0, .int .i64 0, .int .i64 0, .bool false, .slice none 0 0, .slice none 0 0]) rfl) 4 (.int .i64 0) (cs' := #[.int .i64 0, .int .i64 0, .int .i64 0, .int .i64 0, .int .i64 0, .int .i64 0, .int .i64 0, .int .i64 0, .bool false, .slice none 0 0, .slice none 0 0]) rfl) 5 (.int .i64 0) (cs' := #[.int .i64 0, .int .i64 0, .int .i64 0, .int .i64 0, .int .i64 0, .int .i64 0, .int .i64 0, .int .i64 0, .bool false, .slice none 0 0, .slice none 0 0]) rfl) 6 (.int .i64 0) (cs' := #[.int .i64 0, .int .i64 0, .int .i64 0, .int .i64 0, .int .i64 0, .int .i64 0, .int .i64 0, .int .i64 0, .bool false, .slice none 0 0, .slice none 0 0]) rfl) 7 (.int .i64 0) (cs' := #[.int .i64 0, .int .i64 0, .int .i64 0, .int .i64 0, .int .i64 0, .int .i64 0, .int .i64 0, .int .i64 0, .bool false, .slice none 0 0, .slice none 0 0]) rfl) 8 (.bool false) (cs' := #[.int .i64 0, .int .i64 0, .int .i64 0, .int .i64 0, .int .i64 0, .int .i64 0, .int .i64 0, .int .i64 0, .bool false, .slice none 0 0, .slice none 0 0]) rfl) 9 (.slice F8 0 f8) (cs' := #[.int .i64 0, .int .i64 0, .int .i64 0, .int .i64 0, .int .i64 0, .int .i64 0, .int .i64 0, .int .i64 0, .bool false, .slice F8 0 f8, .slice none 0 0]) rfl) 10 (.slice F9 0 f9) (cs' := #[.int .i64 0, .int .i64 0, .int .i64 0, .int .i64 0, .int .i64 0, .int .i64 0, .int .i64 0, .int .i64 0, .bool false, .slice F8 0 f8, .slice F9 0 f9]) rfl); clear ZB ZX y_zc0 y_zf0 y_zc1 y_zf1 y_zc2 y_zf2 y_zc3 y_zf3 y_zc4 y_zf4 y_zc5 y_zf5 y_zc6 y_zf6 y_zc7 y_zf7 y_zc8 y_zf8 y_zc9 y_zf9 y_zc10 y_zf10; generalize (((((((((((w15m.setCell ⟨g15, 0, none⟩ (.int .i64 0)).setCell ⟨g15, 1, none⟩ (.int .i64 0)).setCell ⟨g15, 2, none⟩ (.int .i64 0)).setCell ⟨g15, 3, none⟩ (.int .i64 0)).setCell ⟨g15, 4, none⟩ (.int .i64 0)).setCell ⟨g15, 5, none⟩ (.int .i64 0)).setCell ⟨g15, 6, none⟩ (.int .i64 0)).setCell ⟨g15, 7, none⟩ (.int .i64 0)).setCell ⟨g15, 8, none⟩ (.bool false)).setCell ⟨g15, 9, none⟩ (.slice F8 0 f8)).setCell ⟨g15, 10, none⟩ (.slice F9 0 f9)) = w15 at NB15 Y15 ⊢; have B15 := Aside0.mk (below_step B14.out NB15.out); have X15 := Aside0.mk (blk_below X14.out NB15.out); have x_c0 : w15.cell? ⟨g13, 0, none⟩ = some (.int .i64 0) := (blk_cell X15.out 0).trans rfl; have x_f0 := blk_frozen X15.out 0; have y_c0 : w15.cell? ⟨g15, 0, none⟩ = some (.int .i64 0) := (blk_cell Y15.out 0).trans rfl; have y_f0 := blk_frozen Y15.out 0))
          go_ret
          exact ⟨rfl, B15.out⟩
end Go.Proofs.Ytgmfafmefafiiaa.Pure
