/-
  NetFull, walked by hand: as many packets are on their way as may be; more are lost; one that comes makes room for one.
-/
import Derived.Test.YthgdojaildccaaaONet8
import Derived.Test.YthgdojaildccaaaRowNetFull
namespace Go.Proofs.Ythgdojaildccaaa.Pure
open Go.RowKit Go.Proofs.Ythgdojaildccaaa.M Go.Proofs.YthgdojaildccaaaW.PrintWords Go.Proofs.YthgdojaildccaaaW.PrintLast Go.Proofs.YthgdojaildccaaaW.PrintMore
set_option linter.unusedVariables false
set_option linter.unusedSimpArgs false
theorem net_Take_k {N : Nat} {P : Nat → Prop} {w : World} {g : Nat} {fl : List S37} {i : Nat} {k : Int} (hk : k = (i : Int)) (h : IsN N P w g fl) (hi : i < fl.length) :
    Calls Try.prog 13 #[.pointer (some ⟨g, 0, none⟩), .int .i64 k] w fun x w' => ∃ v, x = .returned (.tuple #[v, .int .i64 0]) ∧ Pk w' w.heap.size (fun _ => True) (rd_T37 fl (i : Int)) v ∧ IsN N P w' g (fl.eraseIdx i) ∧ Below N w w' ∧ Kept w w' P := by subst hk; exact net_Take_ok h hi
theorem fit_z : ∀ n, ∀ p ∈ List.replicate n z37, Fit p := fun n p hp => by rw [List.eq_of_mem_replicate hp]; unfold Fit; simp [z37, z35]
theorem made_ex (n : Int) (h : 0 ≤ n) : ∃ L : List S37, L = List.replicate n.toNat z37 ∧ (L.length : Int) = n ∧ ∀ p ∈ L, Fit p := ⟨_, rfl, by simp; omega, fit_z _⟩
set_option maxHeartbeats 8000000 in
set_option maxRecDepth 100000 in
theorem NetFull_hand (a0 : Int) (w : World) (g0 : (Lit.int .i64 a0).wf = true) :
    Calls Try.prog 4 #[.int .i64 a0] w fun e w' => e = .returned (.bool true) ∧ Below w.heap.size w w' := by
  clear g0
  go_enter Try.func4, Try.ntmps4
  go_wp2_with fail
  refine (carries_calls w).mono ?_; rintro x w1 ⟨rfl, hb⟩; have B1 := Aside0.mk hb; clear hb
  by_cases hv : a0 < 0
  · have d1 : decide (a0 < 0) = true := decide_eq_true hv
    clear hv
    go_wp2_with fail
    go_ret
    exact ⟨rfl, B1.out⟩
  by_cases hu : a0 > 5
  · have v1 : decide (a0 < 0) = false := decide_eq_false hv
    have d1 : decide (a0 > 5) = true := decide_eq_true hu
    have d2 : decide (5 < a0) = true := decide_eq_true hu
    clear hu hv
    go_wp2_with fail
    go_ret
    exact ⟨rfl, B1.out⟩
  have v1 : decide (a0 < 0) = false := decide_eq_false hv
  have v2 : decide (a0 > 5) = false := decide_eq_false hu
  have v3 : decide (5 < a0) = false := decide_eq_false hu
  have b3 : wrap64 (3 + a0) = 3 + a0 := by unfold wrap64; omega
  obtain ⟨L, hL, hLn, hLf⟩ := made_ex 8189 (by decide)
  obtain ⟨M, hM, hMn, hMf⟩ := made_ex (wrap64 (3 + a0)) (by rw [b3]; omega)
  rw [b3] at hMn
  have NB := Aside0.mk b3
  clear b3
  have EL := Aside0.mk hL; have EM := Aside0.mk hM; have FL := Aside0.mk hLf; have FM := Aside0.mk hMf
  have NL := Aside0.mk (show L.length = 8189 by omega); have NM := Aside0.mk (show 3 ≤ M.length ∧ M.length ≤ 8 by omega); have NA := Aside0.mk (show 0 ≤ a0 ∧ a0 ≤ 5 by omega)
  clear hL hM hLn hMn hLf hMf hu hv
  go_wp2_with (first | ((with_reducible refine gate_dst (N := 3) rfl ?_); refine box_event ?hg (N := 3) ?hd (cs := #[.slice none 0 0]) (t := 26) ?hr ?_; (case hd => rfl); (case hg => rfl); (case hr => first | (go_simp; done) | (go_simp; rfl)); intro g3 hg w2 hbox hb; have B2 := Aside0.mk (below_step B1.out hb); have I2 := Aside0.mk (show IsN w.heap.size (fun k => k = g3) w2 g3 [] from ⟨⟨rfl, by rw [hg]; exact B1.out.size⟩, ⟨none, 0, hbox, Kd.R_nil _ _ _ _ _⟩, by simp, by simp⟩); clear hb hg hbox) | ((with_reducible refine gate_dst (N := 15) rfl ?_); refine Kd.R_make k37 (w0 := w2) w.heap.size 37 rfl (N := 15) rfl 24 _ _ rfl 8189 rfl rfl Try.underlying24 (.agg #[.int .i64 0, .int .i64 0, .int .i64 0, .int .i64 0, .int .i64 0, .int .i64 0, .int .i64 0, .int .i64 0, .int .i64 0, .int .i64 0, .int .i64 0, .int .i64 0, .bool false, .slice none 0 0, .slice none 0 0]) 152 info37_ rfl (by decide) (by omega) z37 (ok := fun k => k ≠ g3) (okp := fun k => k ≠ g3) ?hz (fun _ h => h) ?hf ?h0 ?hl (Below.refl _ _) ?hb ?_; (case hz => exact k37_mkM _ _ _ z37 (Kd.R_nil _ _ _ _ _) (Kd.R_nil _ _ _ _ _)); (case hf => exact Nat.ne_of_gt I2.out.lt); (case h0 => decide); (case hl => decide); (case hb => exact B2.out.size); intro v15 w3 ho10 hb hg_ hnew_; rw [← EL.out] at ho10; have hbb := below_gn hg_; obtain ⟨A3, c3, e3⟩ := Kd.R_slice ho10; subst e3; have B3 := Aside0.mk (below_step B2.out hbb); have I3 := Aside0.mk (I2.out.below hbb); have R3 := Aside0.mk (Kd.R_mono (ok' := fun k => k ≠ g3 ∧ k < w3.heap.size) (Kd.R_bound ho10) (fun k hk => ⟨hk.1, hk.2.2.1⟩)); clear ho10 hb hg_ hnew_ hbb))
  refine (net_Sendn (ps := L) rfl I3.out B3.out.size (fun w' _ hk => (Kd.R_reads' (Kd.R_kept R3.out hk (fun k h1 h2 => h1.1 h2))).2.2) (Kd.R_reads' R3.out).2.1 FL.out).mono ?_
  rintro x w4 ⟨rfl, hI, hb, hk⟩
  have hs : sentN ([] : List S37).length L.length = 8189 := by unfold sentN; rw [NL.out]; rfl
  rw [hs] at hI ⊢
  obtain ⟨F4, hF4⟩ : ∃ F, F = [] ++ L.take 8189 := ⟨_, rfl⟩
  have NF4 := Aside0.mk (show F4.length = 8189 by rw [hF4, List.nil_append, List.length_take, NL.out]; rfl)
  rw [← hF4] at hI
  have I4 := Aside0.mk (show IsN w.heap.size (fun k => k = g3 ∨ w3.heap.size ≤ k) w4 g3 F4 from hI); have B4 := Aside0.mk (B3.out.trans hb); have S4 := Aside0.mk hk.1
  have R4 := Aside0.mk (Kd.R_kept R3.out hk (fun k h1 h2 => h1.1 h2))
  clear hI hb hk hs hF4
  go_wp2_with (first | ((with_reducible refine gate_dst (N := 22) rfl ?_); (try (refine gate_guard (by rfl) ?_; dsimp only)); refine Kd.R_make k37 (w0 := w4) w.heap.size 37 rfl (N := 22) rfl 24 _ _ rfl (wrap64 (3 + a0)) rfl rfl Try.underlying24 (.agg #[.int .i64 0, .int .i64 0, .int .i64 0, .int .i64 0, .int .i64 0, .int .i64 0, .int .i64 0, .int .i64 0, .int .i64 0, .int .i64 0, .int .i64 0, .int .i64 0, .bool false, .slice none 0 0, .slice none 0 0]) 152 info37_ rfl (by decide) (by omega) z37 (ok := fun k => w4.heap.size ≤ k) (okp := fun k => w4.heap.size ≤ k) ?hz (fun _ h => h) ?hf ?h0 ?hl (Below.refl _ _) ?hb ?_; (case hz => exact k37_mkM _ _ _ z37 (Kd.R_nil _ _ _ _ _) (Kd.R_nil _ _ _ _ _)); (case hf => exact Nat.le_refl _); (case h0 => rw [NB.out]; have := NA.out; omega); (case hl => rw [NB.out]; have := NA.out; omega); (case hb => exact B4.out.size); intro v22 w5 ho10 hb hg_ hnew_; rw [← EM.out] at ho10; have hbb := below_gn hg_; obtain ⟨A5, c5, e5⟩ := Kd.R_slice ho10; subst e5; have B5 := Aside0.mk (below_step B4.out hbb); have I5 := Aside0.mk (I4.out.bound.below hbb); have R5 := Aside0.mk (Kd.R_below R4.out hbb); have Q5 := Aside0.mk ho10; have S5 := Aside0.mk hbb.size; clear ho10 hb hg_ hnew_ hbb))
  refine (net_Sendn (ps := M) rfl I5.out B5.out.size (fun w' _ hk => (Kd.R_reads' (Kd.R_kept Q5.out hk (fun k h1 h2 => Nat.lt_irrefl _ (Nat.lt_of_lt_of_le h2.2 h1)))).2.2) (Kd.R_reads' Q5.out).2.1 FM.out).mono ?_
  rintro x w6 ⟨rfl, hI, hb, hk⟩
  have hs : sentN F4.length M.length = 3 := by unfold sentN; rw [NF4.out]; have := NM.out.1; omega
  rw [hs] at hI ⊢
  obtain ⟨F6, hF6⟩ : ∃ F, F = F4 ++ M.take 3 := ⟨_, rfl⟩
  have NF6 := Aside0.mk (show F6.length = 8192 by rw [hF6, List.length_append, List.length_take, NF4.out]; have := NM.out.1; omega)
  rw [← hF6] at hI
  have I6 := Aside0.mk (show IsN w.heap.size (fun k => k = g3 ∨ w3.heap.size ≤ k) w6 g3 F6 from hI.mono (fun k h1 => by rcases h1 with h1 | h1; (exact h1.1); (exact .inr (Nat.le_trans (Nat.le_trans S4.out S5.out) h1)))); have B6 := Aside0.mk (B5.out.trans hb)
  have nP := Aside0.mk (show ∀ k, (k ≠ g3 ∧ k < w3.heap.size) → ¬ (k = g3 ∨ w3.heap.size ≤ k) from fun k h1 h2 => by rcases h2 with h2 | h2; (exact h1.1 h2); (exact Nat.lt_irrefl _ (Nat.lt_of_lt_of_le h1.2 h2)))
  have R6 := Aside0.mk (Kd.R_kept R5.out hk (fun k h1 h2 => nP.out k h1 h2.1))
  have S6 := Aside0.mk (Nat.le_trans (Nat.le_trans S4.out S5.out) hk.1)
  clear hI hb hk hs hF6
  go_wp2_with fail
  refine (net_Len I6.out).mono ?_; rintro x w7 ⟨rfl, hb⟩; rw [NF6.out]
  have B7 := Aside0.mk (below_step B6.out hb); have I7 := Aside0.mk (I6.out.below hb); have R7 := Aside0.mk (Kd.R_below R6.out hb); have S7 := Aside0.mk (Nat.le_trans S6.out hb.size); clear hb
  go_wp2_with fail
  refine (net_Twice_ok (i := 0) I7.out (by rw [NF6.out]; decide)).mono ?_; rintro x w8 ⟨rfl, hI, hb, hk⟩
  have e1 : twiceR F6.length = 3 := by unfold twiceR; rw [NF6.out]; rfl
  have e2 : twiceF F6 (rd_T37 F6 ((0 : Nat) : Int)) = F6 := by unfold twiceF; rw [if_neg (by rw [NF6.out]; decide)]
  rw [e1]
  rw [e2] at hI
  have I8 := Aside0.mk (show IsN w.heap.size (fun k => k = g3 ∨ w3.heap.size ≤ k) w8 g3 F6 from hI.mono (fun k h1 => by rcases h1 with h1 | h1; (exact h1); (exact .inr (Nat.le_trans S7.out h1)))); have B8 := Aside0.mk (B7.out.trans hb); have R8 := Aside0.mk (Kd.R_kept R7.out hk nP.out); have S8 := Aside0.mk (Nat.le_trans S7.out hk.1)
  clear hI hb hk e1 e2
  go_wp2_with fail
  refine (net_Take_k (i := 8191) (by rfl) I8.out (by rw [NF6.out]; decide)).mono ?_; rintro x w9 ⟨v, rfl, ⟨v8, v9, rfl, hO, hQ⟩, hI, hb, hk⟩
  obtain ⟨q, hq⟩ : ∃ q, q = rd_T37 F6 ((8191 : Nat) : Int) := ⟨_, rfl⟩
  rw [← hq] at hO hQ ⊢
  obtain ⟨A8, c8, e8⟩ := Kd.R_slice hO; obtain ⟨A9, c9, e9⟩ := Kd.R_slice hQ; subst e8 e9
  obtain ⟨F9, hF9⟩ : ∃ F, F = F6.eraseIdx 8191 := ⟨_, rfl⟩
  have NF9 := Aside0.mk (show F9.length = 8191 by rw [hF9, List.length_eraseIdx_of_lt (by rw [NF6.out]; decide), NF6.out])
  rw [← hF9] at hI
  have I9 := Aside0.mk hI; have B9 := Aside0.mk (B8.out.trans hb); have R9 := Aside0.mk (Kd.R_kept R8.out hk nP.out); have S9 := Aside0.mk (Nat.le_trans S8.out hk.1)
  clear hO hQ hI hb hk hq hF9
  dsimp only [pkV]
  go_wp2_with (first | ((with_reducible refine gate_dst (N := 5) rfl ?_); refine box_event ?hg (N := 5) ?hd (cs := #[.int .i64 0, .int .i64 0, .int .i64 0, .int .i64 0, .int .i64 0, .int .i64 0, .int .i64 0, .int .i64 0, .int .i64 0, .int .i64 0, .int .i64 0, .int .i64 0, .bool false, .slice none 0 0, .slice none 0 0]) (t := 37) ?hr ?_; (case hd => rfl); (case hg => rfl); (case hr => first | (go_simp; done) | (go_simp; rfl)); intro g5 hg w10m hbox hb; have ZB := Aside0.mk hb; have ZX := Aside0.mk hbox; have X10g := Aside0.mk (show w9.heap.size ≤ g5 from by rw [hg]; exact Nat.le_refl _); have x_zc0 : w10m.cell? ⟨g5, 0, none⟩ = some (.int .i64 0) := (blk_cell ZX.out 0).trans rfl; have x_zf0 := blk_frozen ZX.out 0; have x_zc1 : w10m.cell? ⟨g5, 1, none⟩ = some (.int .i64 0) := (blk_cell ZX.out 1).trans rfl; have x_zf1 := blk_frozen ZX.out 1; have x_zc2 : w10m.cell? ⟨g5, 2, none⟩ = some (.int .i64 0) := (blk_cell ZX.out 2).trans rfl; have x_zf2 := blk_frozen ZX.out 2; have x_zc3 : w10m.cell? ⟨g5, 3, none⟩ = some (.int .i64 0) := (blk_cell ZX.out 3).trans rfl; have x_zf3 := blk_frozen ZX.out 3; have x_zc4 : w10m.cell? ⟨g5, 4, none⟩ = some (.int .i64 0) := (blk_cell ZX.out 4).trans rfl; have x_zf4 := blk_frozen ZX.out 4; have x_zc5 : w10m.cell? ⟨g5, 5, none⟩ = some (.int .i64 0) := (blk_cell ZX.out 5).trans rfl; have x_zf5 := blk_frozen ZX.out 5; have x_zc6 : w10m.cell? ⟨g5, 6, none⟩ = some (.int .i64 0) := (blk_cell ZX.out 6).trans rfl; have x_zf6 := blk_frozen ZX.out 6; have x_zc7 : w10m.cell? ⟨g5, 7, none⟩ = some (.int .i64 0) := (blk_cell ZX.out 7).trans rfl; have x_zf7 := blk_frozen ZX.out 7; have x_zc8 : w10m.cell? ⟨g5, 8, none⟩ = some (.int .i64 0) := (blk_cell ZX.out 8).trans rfl; have x_zf8 := blk_frozen ZX.out 8; have x_zc9 : w10m.cell? ⟨g5, 9, none⟩ = some (.int .i64 0) := (blk_cell ZX.out 9).trans rfl; have x_zf9 := blk_frozen ZX.out 9; have x_zc10 : w10m.cell? ⟨g5, 10, none⟩ = some (.int .i64 0) := (blk_cell ZX.out 10).trans rfl; have x_zf10 := blk_frozen ZX.out 10; have x_zc11 : w10m.cell? ⟨g5, 11, none⟩ = some (.int .i64 0) := (blk_cell ZX.out 11).trans rfl; have x_zf11 := blk_frozen ZX.out 11; have x_zc12 : w10m.cell? ⟨g5, 12, none⟩ = some (.bool false) := (blk_cell ZX.out 12).trans rfl; have x_zf12 := blk_frozen ZX.out 12; have x_zc13 : w10m.cell? ⟨g5, 13, none⟩ = some (.slice none 0 0) := (blk_cell ZX.out 13).trans rfl; have x_zf13 := blk_frozen ZX.out 13; have x_zc14 : w10m.cell? ⟨g5, 14, none⟩ = some (.slice none 0 0) := (blk_cell ZX.out 14).trans rfl; have x_zf14 := blk_frozen ZX.out 14; clear hb hg hbox) | ((with_reducible refine gate_dst (N := 39) rfl ?_); have NB10 := Aside0.mk (below_setB (below_setB (below_setB (below_setB (below_setB (below_setB (below_setB (below_setB (below_setB (below_setB (below_setB (below_setB (below_setB (below_setB (below_setB ZB.out (p := ⟨g5, 0, none⟩) X10g.out (.int .i64 q.f0)) (p := ⟨g5, 1, none⟩) X10g.out (.int .i64 q.f1)) (p := ⟨g5, 2, none⟩) X10g.out (.int .i64 q.f2)) (p := ⟨g5, 3, none⟩) X10g.out (.int .i64 q.f3)) (p := ⟨g5, 4, none⟩) X10g.out (.int .i64 q.f4.f0)) (p := ⟨g5, 5, none⟩) X10g.out (.int .i64 q.f4.f1.f0)) (p := ⟨g5, 6, none⟩) X10g.out (.int .i64 q.f4.f1.f1)) (p := ⟨g5, 7, none⟩) X10g.out (.int .i64 q.f4.f2)) (p := ⟨g5, 8, none⟩) X10g.out (.int .i64 q.f4.f3)) (p := ⟨g5, 9, none⟩) X10g.out (.int .i64 q.f4.f4)) (p := ⟨g5, 10, none⟩) X10g.out (.int .i64 q.f4.f5)) (p := ⟨g5, 11, none⟩) X10g.out (.int .i64 q.f4.f6)) (p := ⟨g5, 12, none⟩) X10g.out (.bool q.f4.f7)) (p := ⟨g5, 13, none⟩) X10g.out (.slice A8 q.f4.f8.length c8)) (p := ⟨g5, 14, none⟩) X10g.out (.slice A9 q.f4.f9.length c9)); have X10 := Aside0.mk (blk_put (blk_put (blk_put (blk_put (blk_put (blk_put (blk_put (blk_put (blk_put (blk_put (blk_put (blk_put (blk_put (blk_put (blk_put ZX.out 0 (.int .i64 q.f0) (cs' := #[.int .i64 q.f0, .int .i64 0, .int .i64 0, .int .i64 0, .int .i64 0, .int .i64 0, .int .i64 0, .int .i64 0, .int .i64 0, .int .i64 0, .int .i64 0, .int .i64 0, .bool false, .slice none 0 0, .slice none 0 0]) rfl) 1 (.int .i64 q.f1) (cs' := #[.int .i64 q.f0, .int .i64 q.f1, .int .i64 0, .int .i64 0, .int .i64 0, .int .i64 0, .int .i64 0, .int .i64 0, .int .i64 0, .int .i64 0, .int .i64 0, .int .i64 0, .bool false, .slice none 0 0, .slice none 0 0]) rfl) 2 (.int .i64 q.f2) (cs' := #[.int .i64 q.f0, .int .i64 q.f1, .int .i64 q.f2, .int .i64 0, .int .i64 0, .int .i64 0, .int .i64 0, .int .i64 0, .int .i64 0, .int .i64 0, .int .i64 0, .int .i64 0, .bool false, .slice none 0 0, .slice none 0 0]) rfl) 3 (.int .i64 q.f3) (cs' := #[.int .i64 q.f0, .int .i64 q.f1, .int .i64 q.f2, .int .i64 q.f3, .int .i64 0, .int .i64 0, .int .i64 0, .int .i64 0, .int .i64 0, .int .i64 0, .int .i64 0, .int .i64 0, .bool false, .slice none 0 0, .slice none 0 0]) rfl) 4 (.int .i64 q.f4.f0) (cs' := #[.int .i64 q.f0, .int .i64 q.f1, .int .i64 q.f2, .int .i64 q.f3, .int .i64 q.f4.f0, .int .i64 0, .int .i64 0, .int .i64 0, .int .i64 0, .int .i64 0, .int .i64 0, .int .i64 0, .bool false, .slice none 0 0, .slice none 0 0]) rfl) 5 (.int .i64 q.f4.f1.f0) (cs' := #[.int .i64 q.f0, .int .i64 q.f1, .int .i64 q.f2, .int .i64 q.f3, .int .i64 q.f4.f0, .int .i64 q.f4.f1.f0, .int .i64 0, .int .i64 0, .int .i64 0, .int .i64 0, .int .i64 0, .int .i64 0, .bool false, .slice none 0 0, .slice none 0 0]) rfl) 6 (.int .i64 q.f4.f1.f1) (cs' := #[.int .i64 q.f0, .int .i64 q.f1, .int .i64 q.f2, .int .i64 q.f3, .int .i64 q.f4.f0, .int .i64 q.f4.f1.f0, .int .i64 q.f4.f1.f1, .int .i64 0, .int .i64 0, .int .i64 0, .int .i64 0, .int .i64 0, .bool false, .slice none 0 0, .slice none 0 0]) rfl) 7 (.int .i64 q.f4.f2) (cs' := #[.int .i64 q.f0, .int .i64 q.f1, .int .i64 q.f2, .int .i64 q.f3, .int .i64 q.f4.f0, .int .i64 q.f4.f1.f0, .int .i64 q.f4.f1.f1, .int .i64 q.f4.f2, .int .i64 0, .int .i64 0, .int .i64 0, .int .i64 0, .bool false, .slice none 0 0, .slice none 0 0]) rfl) 8 (.int .i64 q.f4.f3) (cs' := #[.int .i64 q.f0, .int .i64 q.f1, .int .i64 q.f2, .int .i64 q.f3, .int .i64 q.f4.f0, .int .i64 q.f4.f1.f0, .int .i64 q.f4.f1.f1, .int .i64 q.f4.f2, .int .i64 q.f4.f3, .int .i64 0, .int .i64 0, .int .i64 0, .bool false, .slice none 0 0, .slice none 0 0]) rfl) 9 (.int .i64 q.f4.f4) (cs' := #[.int .i64 q.f0, .int .i64 q.f1, .int .i64 q.f2, .int .i64 q.f3, .int .i64 q.f4.f0, .int .i64 q.f4.f1.f0, .int .i64 q.f4.f1.f1, .int .i64 q.f4.f2, .int .i64 q.f4.f3, .int .i64 q.f4.f4, .int .i64 0, .int .i64 0, .bool false, .slice none 0 0, .slice none 0 0]) rfl) 10 (.int .i64 q.f4.f5) (cs' := #[.int .i64 q.f0, .int .i64 q.f1, .int .i64 q.f2, .int .i64 q.f3, .int .i64 q.f4.f0, .int .i64 q.f4.f1.f0, .int .i64 q.f4.f1.f1, .int .i64 q.f4.f2, .int .i64 q.f4.f3, .int .i64 q.f4.f4, .int .i64 q.f4.f5, .int .i64 0, .bool false, .slice none 0 0, .slice none 0 0]) rfl) 11 (.int .i64 q.f4.f6) (cs' := #[.int .i64 q.f0, .int .i64 q.f1, .int .i64 q.f2, .int .i64 q.f3, .int .i64 q.f4.f0, .int .i64 q.f4.f1.f0, .int .i64 q.f4.f1.f1, .int .i64 q.f4.f2, .int .i64 q.f4.f3, .int .i64 q.f4.f4, .int .i64 q.f4.f5, .int .i64 q.f4.f6, .bool false, .slice none 0 0, .slice none 0 0]) rfl) 12 (.bool q.f4.f7) (cs' := #[.int .i64 q.f0, .int .i64 q.f1, .int .i64 q.f2, .int .i64 q.f3, .int .i64 q.f4.f0, .int .i64 q.f4.f1.f0, .int .i64 q.f4.f1.f1, .int .i64 q.f4.f2, .int .i64 q.f4.f3, .int .i64 q.f4.f4, .int .i64 q.f4.f5, .int .i64 q.f4.f6, .bool q.f4.f7, .slice none 0 0, .slice none 0 0]) rfl) 13 (.slice A8 q.f4.f8.length c8) (cs' := #[.int .i64 q.f0, .int .i64 q.f1, .int .i64 q.f2, .int .i64 q.f3, .int .i64 q.f4.f0, .int .i64 q.f4.f1.f0, .int .i64 q.f4.f1.f1, .int .i64 q.f4.f2, .int .i64 q.f4.f3, .int .i64 q.f4.f4, .int .i64 q.f4.f5, .int .i64 q.f4.f6, .bool q.f4.f7, .slice A8 q.f4.f8.length c8, .slice none 0 0]) rfl) 14 (.slice A9 q.f4.f9.length c9) (cs' := #[.int .i64 q.f0, .int .i64 q.f1, .int .i64 q.f2, .int .i64 q.f3, .int .i64 q.f4.f0, .int .i64 q.f4.f1.f0, .int .i64 q.f4.f1.f1, .int .i64 q.f4.f2, .int .i64 q.f4.f3, .int .i64 q.f4.f4, .int .i64 q.f4.f5, .int .i64 q.f4.f6, .bool q.f4.f7, .slice A8 q.f4.f8.length c8, .slice A9 q.f4.f9.length c9]) rfl); clear ZB ZX x_zc0 x_zf0 x_zc1 x_zf1 x_zc2 x_zf2 x_zc3 x_zf3 x_zc4 x_zf4 x_zc5 x_zf5 x_zc6 x_zf6 x_zc7 x_zf7 x_zc8 x_zf8 x_zc9 x_zf9 x_zc10 x_zf10 x_zc11 x_zf11 x_zc12 x_zf12 x_zc13 x_zf13 x_zc14 x_zf14; generalize (((((((((((((((w10m.setCell ⟨g5, 0, none⟩ (.int .i64 q.f0)).setCell ⟨g5, 1, none⟩ (.int .i64 q.f1)).setCell ⟨g5, 2, none⟩ (.int .i64 q.f2)).setCell ⟨g5, 3, none⟩ (.int .i64 q.f3)).setCell ⟨g5, 4, none⟩ (.int .i64 q.f4.f0)).setCell ⟨g5, 5, none⟩ (.int .i64 q.f4.f1.f0)).setCell ⟨g5, 6, none⟩ (.int .i64 q.f4.f1.f1)).setCell ⟨g5, 7, none⟩ (.int .i64 q.f4.f2)).setCell ⟨g5, 8, none⟩ (.int .i64 q.f4.f3)).setCell ⟨g5, 9, none⟩ (.int .i64 q.f4.f4)).setCell ⟨g5, 10, none⟩ (.int .i64 q.f4.f5)).setCell ⟨g5, 11, none⟩ (.int .i64 q.f4.f6)).setCell ⟨g5, 12, none⟩ (.bool q.f4.f7)).setCell ⟨g5, 13, none⟩ (.slice A8 q.f4.f8.length c8)).setCell ⟨g5, 14, none⟩ (.slice A9 q.f4.f9.length c9)) = w10 at NB10 X10 ⊢; have B10 := Aside0.mk (below_step B9.out NB10.out); have I10 := Aside0.mk (I9.out.below NB10.out); have R10 := Aside0.mk (Kd.R_below R9.out NB10.out); have S10 := Aside0.mk (Nat.le_trans S9.out NB10.out.size); ))
  refine (net_Twice_ok (i := 0) I10.out (by rw [NF9.out]; decide)).mono ?_; rintro x w11 ⟨rfl, hI, hb, hk⟩
  obtain ⟨F11, hF11⟩ : ∃ F, F = twiceF F9 (rd_T37 F9 ((0 : Nat) : Int)) := ⟨_, rfl⟩
  have e1 : twiceR F9.length = 0 := by unfold twiceR; rw [NF9.out]; rfl
  have NF11 := Aside0.mk (show F11.length = 8192 by rw [hF11]; unfold twiceF; rw [if_pos (by rw [NF9.out]; decide), List.length_append, NF9.out]; rfl)
  rw [← hF11] at hI
  rw [e1]
  have I11 := Aside0.mk (show IsN w.heap.size (fun k => k = g3 ∨ w3.heap.size ≤ k) w11 g3 F11 from hI.mono (fun k h1 => by rcases h1 with h1 | h1; (exact h1); (exact .inr (Nat.le_trans S10.out h1)))); have B11 := Aside0.mk (B10.out.trans hb); have R11 := Aside0.mk (Kd.R_kept R10.out hk nP.out)
  clear hI hb hk e1 hF11
  go_wp2_with fail
  refine (net_Len I11.out).mono ?_; rintro x w12 ⟨rfl, hb⟩; rw [NF11.out]
  have B12 := Aside0.mk (below_step B11.out hb); have I12 := Aside0.mk (I11.out.below hb); have R12 := Aside0.mk (Kd.R_below R11.out hb); clear hb
  go_wp2_with fail
  refine (net_Sendn (ps := L) rfl I12.out B12.out.size (fun w' _ hk => (Kd.R_reads' (Kd.R_kept R12.out hk nP.out)).2.2) (Kd.R_reads' R12.out).2.1 FL.out).mono ?_
  rintro x w13 ⟨rfl, -, hb, -⟩
  have hs : sentN F11.length L.length = 0 := by unfold sentN; rw [NF11.out]; simp
  rw [hs]
  have B13 := Aside0.mk (B12.out.trans hb)
  clear hb hs
  go_wp2_with fail
  go_ret
  exact ⟨rfl, B13.out⟩
end Go.Proofs.Ythgdojaildccaaa.Pure
