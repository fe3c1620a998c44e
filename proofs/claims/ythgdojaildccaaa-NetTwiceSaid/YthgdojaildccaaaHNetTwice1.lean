/-
  NetTwice, walked by hand: a packet that is there twice comes twice, the same; lost once it comes once.
-/
import Derived.Test.YthgdojaildccaaaONet8
import Derived.Test.YthgdojaildccaaaRowNetTwice
namespace Go.Proofs.Ythgdojaildccaaa.Pure
open Go.RowKit Go.Proofs.Ythgdojaildccaaa.M Go.Proofs.YthgdojaildccaaaW.PrintWords Go.Proofs.YthgdojaildccaaaW.PrintLast Go.Proofs.YthgdojaildccaaaW.PrintMore
set_option linter.unusedVariables false
set_option linter.unusedSimpArgs false
theorem cell_bel {w w' : World} {a : Addr} {v : Value} (h : w.cell? a = some v) (hb : Below w.heap.size w w') : w'.cell? a = some v :=
  (cell_of_heap (hb.block _ (World.block_lt_of_cell? _ _ h))).trans h
theorem fit_of {x : S37} (h : G37 x) : Fit x := by
  have h8 := h.2.2.2.2.2.2.2.2.2.2.2.2.1.1
  have h9 := h.2.2.2.2.2.2.2.2.2.2.2.2.2.1
  unfold Fit
  omega
set_option maxHeartbeats 8000000 in
set_option maxRecDepth 100000 in
theorem NetTwice_true (A0 : Option Addr) (c0 : Nat) (l0 : List S37) (a1 : Int) (w : World) (hr : Kd.C k37 w A0 l0.length l0) (hc : l0.length ≤ c0) (g0 : l0.length * 152 ≤ 140737488351232 ∧ ∀ x ∈ l0, G37 x) (g1 : (Lit.int .i64 a1).wf = true) :
    Calls Try.prog 7 #[.slice A0 l0.length c0, .int .i64 a1, .bool true] w fun e w' => e = .returned (.bool true) ∧ Below w.heap.size w w' := by
  have HR := Aside0.mk hr; have HCAP := Aside0.mk hc; have HF := Aside0.mk (show ∀ x ∈ l0, Fit x from fun x hx => fit_of (g0.2 x hx))
  clear hr hc g0 g1
  go_enter Try.func7, Try.ntmps7
  go_wp2_with fail
  refine (carries_calls w).mono ?_; rintro x w1 ⟨rfl, hb⟩; have B1 := Aside0.mk hb; clear hb
  by_cases hu : l0.length > 20
  · have d1 : decide (20 < (l0.length : Int)) = true := decide_eq_true (by omega)
    have d2 : decide (20 < l0.length) = true := decide_eq_true hu
    have d3 : (20 < l0.length) = True := eq_true hu
    clear hu
    go_wp2_with fail
    go_ret
    exact ⟨rfl, B1.out⟩
  have u1 : decide (20 < (l0.length : Int)) = false := decide_eq_false (by omega)
  have u2 : decide (20 < l0.length) = false := decide_eq_false hu
  have u3 : (20 < l0.length) = False := eq_false hu
  have H20 := Aside0.mk (show l0.length ≤ 20 by omega)
  clear hu
  by_cases hv : a1 < 0
  · have d1 : decide (a1 < 0) = true := decide_eq_true hv
    clear hv
    go_wp2_with fail
    go_ret
    exact ⟨rfl, B1.out⟩
  have v1 : decide (a1 < 0) = false := decide_eq_false hv
  obtain ⟨i, rfl⟩ := Int.eq_ofNat_of_zero_le (Int.not_lt.mp hv)
  clear hv
  by_cases hi : i < l0.length
  rotate_left
  · have d1 : decide ((i : Int) ≥ (l0.length : Int)) = true := decide_eq_true (by omega)
    have d2 : decide ((l0.length : Int) ≤ (i : Int)) = true := decide_eq_true (by omega)
    have d3 : decide (l0.length ≤ i) = true := decide_eq_true (by omega)
    have d4 : (l0.length ≤ i) = True := eq_true (by omega)
    clear hi
    go_wp2_with fail
    go_ret
    exact ⟨rfl, B1.out⟩
  have e1_ : decide ((i : Int) ≥ (l0.length : Int)) = false := decide_eq_false (by omega)
  have e2_ : decide ((l0.length : Int) ≤ (i : Int)) = false := decide_eq_false (by omega)
  have e3_ : decide (l0.length ≤ i) = false := decide_eq_false (by omega)
  have e4_ : (l0.length ≤ i) = False := eq_false (by omega)
  have HI := Aside0.mk hi
  have hi0 : (0 : Int) ≤ (i : Int) := by omega
  have hi1 : (i : Int) < (l0.length : Int) := by omega
  obtain ⟨ad, A13, c13, A14, c14, ea, x0, x1, x2, x3, x4, x5, x6, x7, x8, x9, x10, x11, x12, x13, x14, l13, g13, l14, g14⟩ := at_T37 HR.out (i : Int) hi0 hi1
  have hfit := HF.out _ (show rd_T37 l0 (i : Int) ∈ l0 by rw [show rd_T37 l0 (i : Int) = l0[i] by simp [rd_T37, hi]]; exact List.getElem_mem _)
  subst ea
  obtain ⟨q, hq⟩ : ∃ q, q = rd_T37 l0 (i : Int) := ⟨_, rfl⟩
  rw [← hq] at x0 x1 x2 x3 x4 x5 x6 x7 x8 x9 x10 x11 x12 x13 x14 l13 g13 l14 g14 hfit
  rw [Int.toNat_natCast] at x0 x1 x2 x3 x4 x5 x6 x7 x8 x9 x10 x11 x12 x13 x14
  have EX := Aside0.mk (show _ from (⟨x0, x1, x2, x3, x4, x5, x6, x7, x8, x9, x10, x11, x12, x13, x14⟩ : (w.cell? (ad.add (i * 15)) = some (.int .i64 q.f0)) ∧ (w.cell? ⟨(ad.add (i * 15)).block, (ad.add (i * 15)).off + 1, none⟩ = some (.int .i64 q.f1)) ∧ (w.cell? ⟨(ad.add (i * 15)).block, (ad.add (i * 15)).off + 2, none⟩ = some (.int .i64 q.f2)) ∧ (w.cell? ⟨(ad.add (i * 15)).block, (ad.add (i * 15)).off + 3, none⟩ = some (.int .i64 q.f3)) ∧ (w.cell? ⟨(ad.add (i * 15)).block, (ad.add (i * 15)).off + 4, none⟩ = some (.int .i64 q.f4.f0)) ∧ (w.cell? ⟨(ad.add (i * 15)).block, (ad.add (i * 15)).off + 5, none⟩ = some (.int .i64 q.f4.f1.f0)) ∧ (w.cell? ⟨(ad.add (i * 15)).block, (ad.add (i * 15)).off + 6, none⟩ = some (.int .i64 q.f4.f1.f1)) ∧ (w.cell? ⟨(ad.add (i * 15)).block, (ad.add (i * 15)).off + 7, none⟩ = some (.int .i64 q.f4.f2)) ∧ (w.cell? ⟨(ad.add (i * 15)).block, (ad.add (i * 15)).off + 8, none⟩ = some (.int .i64 q.f4.f3)) ∧ (w.cell? ⟨(ad.add (i * 15)).block, (ad.add (i * 15)).off + 9, none⟩ = some (.int .i64 q.f4.f4)) ∧ (w.cell? ⟨(ad.add (i * 15)).block, (ad.add (i * 15)).off + 10, none⟩ = some (.int .i64 q.f4.f5)) ∧ (w.cell? ⟨(ad.add (i * 15)).block, (ad.add (i * 15)).off + 11, none⟩ = some (.int .i64 q.f4.f6)) ∧ (w.cell? ⟨(ad.add (i * 15)).block, (ad.add (i * 15)).off + 12, none⟩ = some (.bool q.f4.f7)) ∧ (w.cell? ⟨(ad.add (i * 15)).block, (ad.add (i * 15)).off + 13, none⟩ = some (.slice A13 q.f4.f8.length c13)) ∧ (w.cell? ⟨(ad.add (i * 15)).block, (ad.add (i * 15)).off + 14, none⟩ = some (.slice A14 q.f4.f9.length c14)))); have G13 := Aside0.mk g13; have G14 := Aside0.mk g14; have FT := Aside0.mk hfit; have HQ := Aside0.mk hq
  have q1 := eq_true hi0; have q2 := eq_true hi1; have q3 : decide ((0 : Int) ≤ (i : Int)) = true := decide_eq_true hi0
  have HLA := Aside0.mk (show i < (l0 ++ [q]).length by rw [List.length_append]; omega)
  have HRA := Aside0.mk (show rd_T37 (l0 ++ [q]) ((i : Nat) : Int) = q by rw [hq]; simp [rd_T37, List.getElem?_append_left hi])
  have zl1 : ((l0 ++ [q]).eraseIdx i).length = l0.length := by rw [List.length_eraseIdx_of_lt (by rw [List.length_append]; omega), List.length_append]; simp
  have ZA := Aside0.mk (show (((l0 ++ [q]).eraseIdx i).length == l0.length) = true ∧ ((((l0 ++ [q]).eraseIdx i).length : Int) == (l0.length : Int)) = true by rw [zl1]; simp)
  have zl2 : (l0.eraseIdx i).length = l0.length - 1 := List.length_eraseIdx_of_lt hi
  have ZB := Aside0.mk (show ((l0.eraseIdx i).length == l0.length) = false ∧ (((l0.eraseIdx i).length : Int) == (l0.length : Int)) = false by rw [zl2]; exact ⟨beq_eq_false_iff_ne.mpr (by omega), beq_eq_false_iff_ne.mpr (by omega)⟩)
  clear zl1 zl2
  clear hi hq hfit g13 g14 l13 l14 x0 x1 x2 x3 x4 x5 x6 x7 x8 x9 x10 x11 x12 x13 x14
  go_wp2_with (first | ((with_reducible refine gate_dst (N := 7) rfl ?_); refine box_event ?hg (N := 7) ?hd (cs := #[.slice none 0 0]) (t := 26) ?hr ?_; (case hd => rfl); (case hg => rfl); (case hr => first | (go_simp; done) | (go_simp; rfl)); intro g7 hg w2 hbox hb; have B2 := Aside0.mk (below_step B1.out hb); have I2 := Aside0.mk (show IsN w.heap.size (fun k => w.heap.size ≤ k) w2 g7 [] from ⟨⟨by rw [hg]; exact B1.out.size, by rw [hg]; exact B1.out.size⟩, ⟨none, 0, hbox, Kd.R_nil _ _ _ _ _⟩, by simp, by simp⟩); clear hb hg hbox))
  refine (net_Sendn (ps := l0) rfl I2.out B2.out.size (fun w' hb hk => Kd.C_below HR.out (B2.out.trans hb)) HCAP.out HF.out).mono ?_
  rintro x w3 ⟨rfl, hI, hb, hk⟩
  have hs : sentN ([] : List S37).length l0.length = l0.length := by have := H20.out; unfold sentN; simp only [List.length_nil]; omega
  rw [hs, List.take_length, List.nil_append] at hI
  rw [hs]
  have I3 := Aside0.mk (mono_PW (w0 := w) hI (fun k hk => hk) B2.out.size); have B3 := Aside0.mk (B2.out.trans hb)
  clear hI hb hk hs u1 u2 u3 v1 e1_ e2_ e3_ e4_
  go_wp2_with fail
  refine (net_Twice_ok I3.out HI.out).mono ?_; rintro x w4 ⟨rfl, hI, hb, hk⟩
  rw [← HQ.out] at hI
  have e1 : twiceR l0.length = 0 := by have := H20.out; unfold twiceR; rw [if_pos (by omega)]
  have e2 : twiceF l0 q = l0 ++ [q] := by have := H20.out; unfold twiceF; rw [if_pos (by omega)]
  rw [e1]
  rw [e2] at hI
  have I4 := Aside0.mk (mono_PW (w0 := w) hI (fun k hk => hk) B3.out.size); have B4 := Aside0.mk (B3.out.trans hb)
  clear hI hb hk e1 e2
  have HL1 := Aside0.mk (show l0.length < (l0 ++ [q]).length by simp)
  have HR1 := Aside0.mk (show rd_T37 (l0 ++ [q]) ((l0.length : Nat) : Int) = q by simp [rd_T37])
  go_wp2_with fail
  refine (net_Look_ok (i := l0.length) I4.out HL1.out).mono ?_; rintro x w5 ⟨v, rfl, ⟨v8, v9, rfl, hO, hQ⟩, hb⟩
  rw [HR1.out] at hO hQ ⊢
  obtain ⟨A8, c8, e8, l8, hC8⟩ := Kd.R_reads hO; obtain ⟨A9, c9, e9, l9, hC9⟩ := Kd.R_reads hQ; subst e8 e9
  have B5 := Aside0.mk (below_step B4.out hb); have I5 := Aside0.mk (I4.out.below hb); have O5 := Aside0.mk hC8; have Q5 := Aside0.mk hC9
  clear hO hQ hb l8 l9 hC8 hC9
  dsimp only [pkV]
  go_upto_region 10 with (first | ((with_reducible refine gate_dst (N := 8) rfl ?_); refine box_event ?hg (N := 8) ?hd (cs := #[.int .i64 0, .int .i64 0, .int .i64 0, .int .i64 0, .int .i64 0, .int .i64 0, .int .i64 0, .int .i64 0, .int .i64 0, .int .i64 0, .int .i64 0, .int .i64 0, .bool false, .slice none 0 0, .slice none 0 0]) (t := 37) ?hr ?_; (case hd => rfl); (case hg => rfl); (case hr => first | (go_simp; done) | (go_simp; rfl)); intro g8 hg w6m hbox hb; have ZB := Aside0.mk hb; have ZX := Aside0.mk hbox; have X6g := Aside0.mk (show w5.heap.size ≤ g8 from by rw [hg]; exact Nat.le_refl _); have x_zc0 : w6m.cell? ⟨g8, 0, none⟩ = some (.int .i64 0) := (blk_cell ZX.out 0).trans rfl; have x_zf0 := blk_frozen ZX.out 0; have x_zc1 : w6m.cell? ⟨g8, 1, none⟩ = some (.int .i64 0) := (blk_cell ZX.out 1).trans rfl; have x_zf1 := blk_frozen ZX.out 1; have x_zc2 : w6m.cell? ⟨g8, 2, none⟩ = some (.int .i64 0) := (blk_cell ZX.out 2).trans rfl; have x_zf2 := blk_frozen ZX.out 2; have x_zc3 : w6m.cell? ⟨g8, 3, none⟩ = some (.int .i64 0) := (blk_cell ZX.out 3).trans rfl; have x_zf3 := blk_frozen ZX.out 3; have x_zc4 : w6m.cell? ⟨g8, 4, none⟩ = some (.int .i64 0) := (blk_cell ZX.out 4).trans rfl; have x_zf4 := blk_frozen ZX.out 4; have x_zc5 : w6m.cell? ⟨g8, 5, none⟩ = some (.int .i64 0) := (blk_cell ZX.out 5).trans rfl; have x_zf5 := blk_frozen ZX.out 5; have x_zc6 : w6m.cell? ⟨g8, 6, none⟩ = some (.int .i64 0) := (blk_cell ZX.out 6).trans rfl; have x_zf6 := blk_frozen ZX.out 6; have x_zc7 : w6m.cell? ⟨g8, 7, none⟩ = some (.int .i64 0) := (blk_cell ZX.out 7).trans rfl; have x_zf7 := blk_frozen ZX.out 7; have x_zc8 : w6m.cell? ⟨g8, 8, none⟩ = some (.int .i64 0) := (blk_cell ZX.out 8).trans rfl; have x_zf8 := blk_frozen ZX.out 8; have x_zc9 : w6m.cell? ⟨g8, 9, none⟩ = some (.int .i64 0) := (blk_cell ZX.out 9).trans rfl; have x_zf9 := blk_frozen ZX.out 9; have x_zc10 : w6m.cell? ⟨g8, 10, none⟩ = some (.int .i64 0) := (blk_cell ZX.out 10).trans rfl; have x_zf10 := blk_frozen ZX.out 10; have x_zc11 : w6m.cell? ⟨g8, 11, none⟩ = some (.int .i64 0) := (blk_cell ZX.out 11).trans rfl; have x_zf11 := blk_frozen ZX.out 11; have x_zc12 : w6m.cell? ⟨g8, 12, none⟩ = some (.bool false) := (blk_cell ZX.out 12).trans rfl; have x_zf12 := blk_frozen ZX.out 12; have x_zc13 : w6m.cell? ⟨g8, 13, none⟩ = some (.slice none 0 0) := (blk_cell ZX.out 13).trans rfl; have x_zf13 := blk_frozen ZX.out 13; have x_zc14 : w6m.cell? ⟨g8, 14, none⟩ = some (.slice none 0 0) := (blk_cell ZX.out 14).trans rfl; have x_zf14 := blk_frozen ZX.out 14; clear hb hg hbox))
  have NB6 := Aside0.mk (below_setB (below_setB (below_setB (below_setB (below_setB (below_setB (below_setB (below_setB (below_setB (below_setB (below_setB (below_setB (below_setB (below_setB (below_setB ZB.out (p := ⟨g8, 0, none⟩) X6g.out (.int .i64 q.f0)) (p := ⟨g8, 1, none⟩) X6g.out (.int .i64 q.f1)) (p := ⟨g8, 2, none⟩) X6g.out (.int .i64 q.f2)) (p := ⟨g8, 3, none⟩) X6g.out (.int .i64 q.f3)) (p := ⟨g8, 4, none⟩) X6g.out (.int .i64 q.f4.f0)) (p := ⟨g8, 5, none⟩) X6g.out (.int .i64 q.f4.f1.f0)) (p := ⟨g8, 6, none⟩) X6g.out (.int .i64 q.f4.f1.f1)) (p := ⟨g8, 7, none⟩) X6g.out (.int .i64 q.f4.f2)) (p := ⟨g8, 8, none⟩) X6g.out (.int .i64 q.f4.f3)) (p := ⟨g8, 9, none⟩) X6g.out (.int .i64 q.f4.f4)) (p := ⟨g8, 10, none⟩) X6g.out (.int .i64 q.f4.f5)) (p := ⟨g8, 11, none⟩) X6g.out (.int .i64 q.f4.f6)) (p := ⟨g8, 12, none⟩) X6g.out (.bool q.f4.f7)) (p := ⟨g8, 13, none⟩) X6g.out (.slice A8 q.f4.f8.length c8)) (p := ⟨g8, 14, none⟩) X6g.out (.slice A9 q.f4.f9.length c9)); have X6 := Aside0.mk (blk_put (blk_put (blk_put (blk_put (blk_put (blk_put (blk_put (blk_put (blk_put (blk_put (blk_put (blk_put (blk_put (blk_put (blk_put ZX.out 0 (.int .i64 q.f0) (cs' := #[.int .i64 q.f0, .int .i64 0, .int .i64 0, .int .i64 0, .int .i64 0, .int .i64 0, .int .i64 0, .int .i64 0, .int .i64 0, .int .i64 0, .int .i64 0, .int .i64 0, .bool false, .slice none 0 0, .slice none 0 0]) rfl) 1 (.int .i64 q.f1) (cs' := #[.int .i64 q.f0, .int .i64 q.f1, .int .i64 0, .int .i64 0, .int .i64 0, .int .i64 0, .int .i64 0, .int .i64 0, .int .i64 0, .int .i64 0, .int .i64 0, .int .i64 0, .bool false, .slice none 0 0, .slice none 0 0]) rfl) 2 (.int .i64 q.f2) (cs' := #[.int .i64 q.f0, .int .i64 q.f1, .int .i64 q.f2, .int .i64 0, .int .i64 0, .int .i64 0, .int .i64 0, .int .i64 0, .int .i64 0, .int .i64 0, .int .i64 0, .int .i64 0, .bool false, .slice none 0 0, .slice none 0 0]) rfl) 3 (.int .i64 q.f3) (cs' := #[.int .i64 q.f0, .int .i64 q.f1, .int .i64 q.f2, .int .i64 q.f3, .int .i64 0, .int .i64 0, .int .i64 0, .int .i64 0, .int .i64 0, .int .i64 0, .int .i64 0, .int .i64 0, .bool false, .slice none 0 0, .slice none 0 0]) rfl) 4 (.int .i64 q.f4.f0) (cs' := #[.int .i64 q.f0, .int .i64 q.f1, .int .i64 q.f2, .int .i64 q.f3, .int .i64 q.f4.f0, .int .i64 0, .int .i64 0, .int .i64 0, .int .i64 0, .int .i64 0, .int .i64 0, .int .i64 0, .bool false, .slice none 0 0, .slice none 0 0]) rfl) 5 (.int .i64 q.f4.f1.f0) (cs' := #[.int .i64 q.f0, .int .i64 q.f1, .int .i64 q.f2, .int .i64 q.f3, .int .i64 q.f4.f0, .int .i64 q.f4.f1.f0, .int .i64 0, .int .i64 0, .int .i64 0, .int .i64 0, .int .i64 0, .int .i64 0, .bool false, .slice none 0 0, .slice none 0 0]) rfl) 6 (.int .i64 q.f4.f1.f1) (cs' := #[.int .i64 q.f0, .int .i64 q.f1, .int .i64 q.f2, .int .i64 q.f3, .int .i64 q.f4.f0, .int .i64 q.f4.f1.f0, .int .i64 q.f4.f1.f1, .int .i64 0, .int .i64 0, .int .i64 0, .int .i64 0, .int .i64 0, .bool false, .slice none 0 0, .slice none 0 0]) rfl) 7 (.int .i64 q.f4.f2) (cs' := #[.int .i64 q.f0, .int .i64 q.f1, .int .i64 q.f2, .int .i64 q.f3, .int .i64 q.f4.f0, .int .i64 q.f4.f1.f0, .int .i64 q.f4.f1.f1, .int .i64 q.f4.f2, .int .i64 0, .int .i64 0, .int .i64 0, .int .i64 0, .bool false, .slice none 0 0, .slice none 0 0]) rfl) 8 (.int .i64 q.f4.f3) (cs' := #[.int .i64 q.f0, .int .i64 q.f1, .int .i64 q.f2, .int .i64 q.f3, .int .i64 q.f4.f0, .int .i64 q.f4.f1.f0, .int .i64 q.f4.f1.f1, .int .i64 q.f4.f2, .int .i64 q.f4.f3, .int .i64 0, .int .i64 0, .int .i64 0, .bool false, .slice none 0 0, .slice none 0 0]) rfl) 9 (.int .i64 q.f4.f4) (cs' := #[.int .i64 q.f0, .int .i64 q.f1, .int .i64 q.f2, .int .i64 q.f3, .int .i64 q.f4.f0, .int .i64 q.f4.f1.f0, .int .i64 q.f4.f1.f1, .int .i64 q.f4.f2, .int .i64 q.f4.f3, .int .i64 q.f4.f4, .int .i64 0, .int .i64 0, .bool false, .slice none 0 0, .slice none 0 0]) rfl) 10 (.int .i64 q.f4.f5) (cs' := #[.int .i64 q.f0, .int .i64 q.f1, .int .i64 q.f2, .int .i64 q.f3, .int .i64 q.f4.f0, .int .i64 q.f4.f1.f0, .int .i64 q.f4.f1.f1, .int .i64 q.f4.f2, .int .i64 q.f4.f3, .int .i64 q.f4.f4, .int .i64 q.f4.f5, .int .i64 0, .bool false, .slice none 0 0, .slice none 0 0]) rfl) 11 (.int .i64 q.f4.f6) (cs' := #[.int .i64 q.f0, .int .i64 q.f1, .int .i64 q.f2, .int .i64 q.f3, .int .i64 q.f4.f0, .int .i64 q.f4.f1.f0, .int .i64 q.f4.f1.f1, .int .i64 q.f4.f2, .int .i64 q.f4.f3, .int .i64 q.f4.f4, .int .i64 q.f4.f5, .int .i64 q.f4.f6, .bool false, .slice none 0 0, .slice none 0 0]) rfl) 12 (.bool q.f4.f7) (cs' := #[.int .i64 q.f0, .int .i64 q.f1, .int .i64 q.f2, .int .i64 q.f3, .int .i64 q.f4.f0, .int .i64 q.f4.f1.f0, .int .i64 q.f4.f1.f1, .int .i64 q.f4.f2, .int .i64 q.f4.f3, .int .i64 q.f4.f4, .int .i64 q.f4.f5, .int .i64 q.f4.f6, .bool q.f4.f7, .slice none 0 0, .slice none 0 0]) rfl) 13 (.slice A8 q.f4.f8.length c8) (cs' := #[.int .i64 q.f0, .int .i64 q.f1, .int .i64 q.f2, .int .i64 q.f3, .int .i64 q.f4.f0, .int .i64 q.f4.f1.f0, .int .i64 q.f4.f1.f1, .int .i64 q.f4.f2, .int .i64 q.f4.f3, .int .i64 q.f4.f4, .int .i64 q.f4.f5, .int .i64 q.f4.f6, .bool q.f4.f7, .slice A8 q.f4.f8.length c8, .slice none 0 0]) rfl) 14 (.slice A9 q.f4.f9.length c9) (cs' := #[.int .i64 q.f0, .int .i64 q.f1, .int .i64 q.f2, .int .i64 q.f3, .int .i64 q.f4.f0, .int .i64 q.f4.f1.f0, .int .i64 q.f4.f1.f1, .int .i64 q.f4.f2, .int .i64 q.f4.f3, .int .i64 q.f4.f4, .int .i64 q.f4.f5, .int .i64 q.f4.f6, .bool q.f4.f7, .slice A8 q.f4.f8.length c8, .slice A9 q.f4.f9.length c9]) rfl); clear ZB ZX x_zc0 x_zf0 x_zc1 x_zf1 x_zc2 x_zf2 x_zc3 x_zf3 x_zc4 x_zf4 x_zc5 x_zf5 x_zc6 x_zf6 x_zc7 x_zf7 x_zc8 x_zf8 x_zc9 x_zf9 x_zc10 x_zf10 x_zc11 x_zf11 x_zc12 x_zf12 x_zc13 x_zf13 x_zc14 x_zf14; generalize (((((((((((((((w6m.setCell ⟨g8, 0, none⟩ (.int .i64 q.f0)).setCell ⟨g8, 1, none⟩ (.int .i64 q.f1)).setCell ⟨g8, 2, none⟩ (.int .i64 q.f2)).setCell ⟨g8, 3, none⟩ (.int .i64 q.f3)).setCell ⟨g8, 4, none⟩ (.int .i64 q.f4.f0)).setCell ⟨g8, 5, none⟩ (.int .i64 q.f4.f1.f0)).setCell ⟨g8, 6, none⟩ (.int .i64 q.f4.f1.f1)).setCell ⟨g8, 7, none⟩ (.int .i64 q.f4.f2)).setCell ⟨g8, 8, none⟩ (.int .i64 q.f4.f3)).setCell ⟨g8, 9, none⟩ (.int .i64 q.f4.f4)).setCell ⟨g8, 10, none⟩ (.int .i64 q.f4.f5)).setCell ⟨g8, 11, none⟩ (.int .i64 q.f4.f6)).setCell ⟨g8, 12, none⟩ (.bool q.f4.f7)).setCell ⟨g8, 13, none⟩ (.slice A8 q.f4.f8.length c8)).setCell ⟨g8, 14, none⟩ (.slice A9 q.f4.f9.length c9)) = w6 at NB6 X6 ⊢; have B6 := Aside0.mk (below_step B5.out NB6.out); have I6 := Aside0.mk (I5.out.below NB6.out); 
  refine start_ (n := 11) (S := fun w' => w'.cell? ⟨g8, 0, none⟩ = some (.int .i64 q.f0) ∧ w'.cell? ⟨g8, 1, none⟩ = some (.int .i64 q.f1) ∧ w'.cell? ⟨g8, 2, none⟩ = some (.int .i64 q.f2) ∧ w'.cell? ⟨g8, 3, none⟩ = some (.int .i64 q.f3) ∧ w'.cell? ⟨g8, 4, none⟩ = some (.int .i64 q.f4.f0) ∧ w'.cell? ⟨g8, 5, none⟩ = some (.int .i64 q.f4.f1.f0) ∧ w'.cell? ⟨g8, 6, none⟩ = some (.int .i64 q.f4.f1.f1) ∧ w'.cell? ⟨g8, 7, none⟩ = some (.int .i64 q.f4.f2) ∧ w'.cell? ⟨g8, 8, none⟩ = some (.int .i64 q.f4.f3) ∧ w'.cell? ⟨g8, 9, none⟩ = some (.int .i64 q.f4.f4) ∧ w'.cell? ⟨g8, 10, none⟩ = some (.int .i64 q.f4.f5) ∧ w'.cell? ⟨g8, 11, none⟩ = some (.int .i64 q.f4.f6) ∧ w'.cell? ⟨g8, 12, none⟩ = some (.bool q.f4.f7) ∧ w'.cell? ⟨g8, 13, none⟩ = some (.slice A8 q.f4.f8.length c8) ∧ w'.cell? ⟨g8, 14, none⟩ = some (.slice A9 q.f4.f9.length c9) ∧ w'.cell? (ad.add (i * 15)) = some (.int .i64 q.f0) ∧ w'.cell? ⟨(ad.add (i * 15)).block, (ad.add (i * 15)).off + 1, none⟩ = some (.int .i64 q.f1) ∧ w'.cell? ⟨(ad.add (i * 15)).block, (ad.add (i * 15)).off + 2, none⟩ = some (.int .i64 q.f2) ∧ w'.cell? ⟨(ad.add (i * 15)).block, (ad.add (i * 15)).off + 3, none⟩ = some (.int .i64 q.f3) ∧ w'.cell? ⟨(ad.add (i * 15)).block, (ad.add (i * 15)).off + 4, none⟩ = some (.int .i64 q.f4.f0) ∧ w'.cell? ⟨(ad.add (i * 15)).block, (ad.add (i * 15)).off + 5, none⟩ = some (.int .i64 q.f4.f1.f0) ∧ w'.cell? ⟨(ad.add (i * 15)).block, (ad.add (i * 15)).off + 6, none⟩ = some (.int .i64 q.f4.f1.f1) ∧ w'.cell? ⟨(ad.add (i * 15)).block, (ad.add (i * 15)).off + 7, none⟩ = some (.int .i64 q.f4.f2) ∧ w'.cell? ⟨(ad.add (i * 15)).block, (ad.add (i * 15)).off + 8, none⟩ = some (.int .i64 q.f4.f3) ∧ w'.cell? ⟨(ad.add (i * 15)).block, (ad.add (i * 15)).off + 9, none⟩ = some (.int .i64 q.f4.f4) ∧ w'.cell? ⟨(ad.add (i * 15)).block, (ad.add (i * 15)).off + 10, none⟩ = some (.int .i64 q.f4.f5) ∧ w'.cell? ⟨(ad.add (i * 15)).block, (ad.add (i * 15)).off + 11, none⟩ = some (.int .i64 q.f4.f6) ∧ w'.cell? ⟨(ad.add (i * 15)).block, (ad.add (i * 15)).off + 12, none⟩ = some (.bool q.f4.f7) ∧ w'.cell? ⟨(ad.add (i * 15)).block, (ad.add (i * 15)).off + 13, none⟩ = some (.slice A13 q.f4.f8.length c13) ∧ w'.cell? ⟨(ad.add (i * 15)).block, (ad.add (i * 15)).off + 14, none⟩ = some (.slice A14 q.f4.f9.length c14)) (ds := [8]) #[false, false, false, false, false, false, false, false, false, false, false] (by kernel_rfl) rfl rfl ⟨(blk_cell (blk_drew X6.out) 0).trans rfl, (blk_cell (blk_drew X6.out) 1).trans rfl, (blk_cell (blk_drew X6.out) 2).trans rfl, (blk_cell (blk_drew X6.out) 3).trans rfl, (blk_cell (blk_drew X6.out) 4).trans rfl, (blk_cell (blk_drew X6.out) 5).trans rfl, (blk_cell (blk_drew X6.out) 6).trans rfl, (blk_cell (blk_drew X6.out) 7).trans rfl, (blk_cell (blk_drew X6.out) 8).trans rfl, (blk_cell (blk_drew X6.out) 9).trans rfl, (blk_cell (blk_drew X6.out) 10).trans rfl, (blk_cell (blk_drew X6.out) 11).trans rfl, (blk_cell (blk_drew X6.out) 12).trans rfl, (blk_cell (blk_drew X6.out) 13).trans rfl, (blk_cell (blk_drew X6.out) 14).trans rfl, cell_bel (w := w) EX.out.1 (below_drew B6.out), cell_bel (w := w) EX.out.2.1 (below_drew B6.out), cell_bel (w := w) EX.out.2.2.1 (below_drew B6.out), cell_bel (w := w) EX.out.2.2.2.1 (below_drew B6.out), cell_bel (w := w) EX.out.2.2.2.2.1 (below_drew B6.out), cell_bel (w := w) EX.out.2.2.2.2.2.1 (below_drew B6.out), cell_bel (w := w) EX.out.2.2.2.2.2.2.1 (below_drew B6.out), cell_bel (w := w) EX.out.2.2.2.2.2.2.2.1 (below_drew B6.out), cell_bel (w := w) EX.out.2.2.2.2.2.2.2.2.1 (below_drew B6.out), cell_bel (w := w) EX.out.2.2.2.2.2.2.2.2.2.1 (below_drew B6.out), cell_bel (w := w) EX.out.2.2.2.2.2.2.2.2.2.2.1 (below_drew B6.out), cell_bel (w := w) EX.out.2.2.2.2.2.2.2.2.2.2.2.1 (below_drew B6.out), cell_bel (w := w) EX.out.2.2.2.2.2.2.2.2.2.2.2.2.1 (below_drew B6.out), cell_bel (w := w) EX.out.2.2.2.2.2.2.2.2.2.2.2.2.2.1 (below_drew B6.out), cell_bel (w := w) EX.out.2.2.2.2.2.2.2.2.2.2.2.2.2.2 (below_drew B6.out)⟩ (fun hHeld => ?_)
  refine pure_ (i := 0) (N := some 37) (v := ?_) (a' := ?_) #[true, false, false, false, false, false, false, false, false, false, false] rfl rfl (by kernel_rfl) (fun _ _ _ h => h) (Or.inl ⟨by rfl, ?_⟩) ?_ ?_
  rotate_left
  · intro w'
    go_simp
    with_reducible rfl
  rotate_left
  · simp only [Act.put, List.setIfInBounds_toArray, List.set_cons_zero, List.set_cons_succ, i64_w, i32_w]
    rfl
  refine pure_ (i := 1) (N := some 38) (v := ?_) (a' := ?_) #[true, true, false, false, false, false, false, false, false, false, false] rfl rfl (by kernel_rfl) (fun _ _ _ h => h) (Or.inl ⟨by rfl, ?_⟩) ?_ ?_
  rotate_left
  · intro w'
    go_simp
    with_reducible rfl
  rotate_left
  · simp only [Act.put, List.setIfInBounds_toArray, List.set_cons_zero, List.set_cons_succ, i64_w, i32_w]
    rfl
  refine pure_ (i := 2) (N := some 39) (v := ?_) (a' := ?_) #[true, true, true, false, false, false, false, false, false, false, false] rfl rfl (by kernel_rfl) (fun _ _ _ h => h) (Or.inl ⟨by rfl, ?_⟩) ?_ ?_
  rotate_left
  · intro w'
    go_simp
    with_reducible rfl
  rotate_left
  · simp only [Act.put, List.setIfInBounds_toArray, List.set_cons_zero, List.set_cons_succ, i64_w, i32_w]
    rfl
  refine pure_ (i := 4) (N := some 41) (v := ?_) (a' := ?_) #[true, true, true, false, true, false, false, false, false, false, false] rfl rfl (by kernel_rfl) (fun _ _ _ h => h) (Or.inl ⟨by rfl, ?_⟩) ?_ ?_
  rotate_left
  · intro w'
    go_simp
    with_reducible rfl
  rotate_left
  · simp only [Act.put, List.setIfInBounds_toArray, List.set_cons_zero, List.set_cons_succ, i64_w, i32_w]
    rfl
  refine pure_ (i := 5) (N := some 42) (v := ?_) (a' := ?_) #[true, true, true, false, true, true, false, false, false, false, false] rfl rfl (by kernel_rfl) (fun _ _ _ h => h) (Or.inl ⟨by rfl, ?_⟩) ?_ ?_
  rotate_left
  · intro w'
    go_simp
    with_reducible rfl
  rotate_left
  · simp only [Act.put, List.setIfInBounds_toArray, List.set_cons_zero, List.set_cons_succ, i64_w, i32_w]
    rfl
  refine pure_ (i := 6) (N := some 43) (v := ?_) (a' := ?_) #[true, true, true, false, true, true, true, false, false, false, false] rfl rfl (by kernel_rfl) (fun _ _ _ h => h) (Or.inl ⟨by rfl, ?_⟩) ?_ ?_
  rotate_left
  · intro w'
    go_simp
    with_reducible rfl
  rotate_left
  · simp only [Act.put, List.setIfInBounds_toArray, List.set_cons_zero, List.set_cons_succ, i64_w, i32_w]
    rfl
  refine take_ (i := 3) (N := some 40) (v := ?_) (a' := ?_) #[true, true, true, true, true, true, true, false, false, false, false] rfl rfl (by kernel_rfl) (fun _ _ _ h => h) (Or.inl ⟨by rfl, ?_⟩) hHeld ?_ ?_
  rotate_left
  · rintro w' ⟨s0, s1, s2, s3, s4, s5, s6, s7, s8, s9, s10, s11, s12, s13, s14, s15, s16, s17, s18, s19, s20, s21, s22, s23, s24, s25, s26, s27, s28, s29⟩
    go_simp
    with_reducible rfl
  rotate_left
  · simp only [Act.put, List.setIfInBounds_toArray, List.set_cons_zero, List.set_cons_succ, i64_w, i32_w]
    rfl
  refine take_ (i := 7) (N := some 44) (v := ?_) (a' := ?_) #[true, true, true, true, true, true, true, true, false, false, false] rfl rfl (by kernel_rfl) (fun _ _ _ h => h) (Or.inl ⟨by rfl, ?_⟩) hHeld ?_ ?_
  rotate_left
  · rintro w' ⟨s0, s1, s2, s3, s4, s5, s6, s7, s8, s9, s10, s11, s12, s13, s14, s15, s16, s17, s18, s19, s20, s21, s22, s23, s24, s25, s26, s27, s28, s29⟩
    go_simp
    with_reducible rfl
  rotate_left
  · simp only [Act.put, List.setIfInBounds_toArray, List.set_cons_zero, List.set_cons_succ, i64_w, i32_w]
    rfl
  refine last_ (i := 8) (N := some 45) #[true, true, true, true, true, true, true, true, true, false, false] rfl rfl (by kernel_rfl) (by decide) (fun K hK => ?_)
  refine goes_ Try.func14 (by kernel_rfl) rfl #[.agg #[.int .i64 q.f0, .int .i64 q.f1, .int .i64 q.f2, .int .i64 q.f3, .int .i64 q.f4.f0, .int .i64 q.f4.f1.f0, .int .i64 q.f4.f1.f1, .int .i64 q.f4.f2, .int .i64 q.f4.f3, .int .i64 q.f4.f4, .int .i64 q.f4.f5, .int .i64 q.f4.f6, .bool q.f4.f7, .slice A8 q.f4.f8.length c8, .slice A9 q.f4.f9.length c9], .agg #[.int .i64 q.f0, .int .i64 q.f1, .int .i64 q.f2, .int .i64 q.f3, .int .i64 q.f4.f0, .int .i64 q.f4.f1.f0, .int .i64 q.f4.f1.f1, .int .i64 q.f4.f2, .int .i64 q.f4.f3, .int .i64 q.f4.f4, .int .i64 q.f4.f5, .int .i64 q.f4.f6, .bool q.f4.f7, .slice A13 q.f4.f8.length c13, .slice A14 q.f4.f9.length c14]] (by rfl) rfl rfl (by simp only [List.map_toArray, List.map_cons, List.map_nil]; rfl) ?_
  with_reducible refine (psame_calls (p := q) (w := w6.drew) (Kd.C_below O5.out (below_step NB6.out (below_drew (Below.refl _ _)))) (Kd.C_below Q5.out (below_step NB6.out (below_drew (Below.refl _ _)))) (Kd.C_below G13.out (below_drew B6.out)) (Kd.C_below G14.out (below_drew B6.out)) FT.out).mono ?_
  rintro x w7 ⟨rfl, hb⟩
  refine ⟨_, rfl, ?_⟩
  have B7 := Aside0.mk (below_step (below_drew B6.out) hb)
  have I7 := Aside0.mk ((I6.out.below (below_drew (Below.refl _ _))).below hb)
  clear hb
  refine hK.out _ _ ?_
  clear hK K
  refine norm_ (a' := ?_) ?_ ?_
  rotate_left
  · show Act.put _ (some 45) _ = _
    simp only [Act.put, List.setIfInBounds_toArray, List.set_cons_zero, List.set_cons_succ, i64_w, i32_w]
    rfl
  refine pure_ (i := 9) (N := some 46) (v := ?_) (a' := ?_) #[true, true, true, true, true, true, true, true, true, true, false] rfl rfl (by kernel_rfl) (fun _ _ _ h => h) (Or.inl ⟨by rfl, ?_⟩) ?_ ?_
  rotate_left
  · intro w'
    go_simp
    with_reducible rfl
  rotate_left
  · simp only [Act.put, List.setIfInBounds_toArray, List.set_cons_zero, List.set_cons_succ, i64_w, i32_w]
    rfl
  refine pure_ (i := 10) (N := some 47) (v := ?_) (a' := ?_) #[true, true, true, true, true, true, true, true, true, true, true] rfl rfl (by kernel_rfl) (fun _ _ _ h => h) (Or.inl ⟨by rfl, ?_⟩) ?_ ?_
  rotate_left
  · intro w'
    go_simp
    with_reducible rfl
  rotate_left
  · simp only [Act.put, List.setIfInBounds_toArray, List.set_cons_zero, List.set_cons_succ, i64_w, i32_w]
    rfl
  refine done_ (by kernel_rfl) ?_
  clear NB6 X6 O5 Q5
  go_wp2_with fail
  refine (net_Take_ok (i := l0.length) I7.out HL1.out).mono ?_; rintro x w8 ⟨v, rfl, -, hI, hb, hk⟩
  have e2 : (l0 ++ [q]).eraseIdx l0.length = l0 := by rw [List.eraseIdx_append_of_length_le (Nat.le_refl _)]; simp
  rw [e2] at hI
  have B8 := Aside0.mk (B7.out.trans hb); have I8 := Aside0.mk hI
  clear hI hb hk e2
  go_wp2_with fail
  refine (net_Take_ok (i := i) I8.out HI.out).mono ?_; rintro x w20 ⟨v, rfl, ⟨v8, v9, rfl, hO, hQ⟩, hI, hb, hk⟩
  rw [← HQ.out] at hO hQ ⊢
  obtain ⟨A8, c8, e8, l8, hC8⟩ := Kd.R_reads hO; obtain ⟨A9, c9, e9, l9, hC9⟩ := Kd.R_reads hQ; subst e8 e9
  have B20 := Aside0.mk (B8.out.trans hb); have I20 := Aside0.mk hI; have O20 := Aside0.mk hC8; have Q20 := Aside0.mk hC9
  clear hO hQ hb hk hI l8 l9 hC8 hC9
  dsimp only [pkV]
  go_upto_region 15 with (first | ((with_reducible refine gate_dst (N := 10) rfl ?_); refine box_event ?hg (N := 10) ?hd (cs := #[.int .i64 0, .int .i64 0, .int .i64 0, .int .i64 0, .int .i64 0, .int .i64 0, .int .i64 0, .int .i64 0, .int .i64 0, .int .i64 0, .int .i64 0, .int .i64 0, .bool false, .slice none 0 0, .slice none 0 0]) (t := 37) ?hr ?_; (case hd => rfl); (case hg => rfl); (case hr => first | (go_simp; done) | (go_simp; rfl)); intro g10 hg w21m hbox hb; have ZB := Aside0.mk hb; have ZX := Aside0.mk hbox; have X21g := Aside0.mk (show w20.heap.size ≤ g10 from by rw [hg]; exact Nat.le_refl _); have x_zc0 : w21m.cell? ⟨g10, 0, none⟩ = some (.int .i64 0) := (blk_cell ZX.out 0).trans rfl; have x_zf0 := blk_frozen ZX.out 0; have x_zc1 : w21m.cell? ⟨g10, 1, none⟩ = some (.int .i64 0) := (blk_cell ZX.out 1).trans rfl; have x_zf1 := blk_frozen ZX.out 1; have x_zc2 : w21m.cell? ⟨g10, 2, none⟩ = some (.int .i64 0) := (blk_cell ZX.out 2).trans rfl; have x_zf2 := blk_frozen ZX.out 2; have x_zc3 : w21m.cell? ⟨g10, 3, none⟩ = some (.int .i64 0) := (blk_cell ZX.out 3).trans rfl; have x_zf3 := blk_frozen ZX.out 3; have x_zc4 : w21m.cell? ⟨g10, 4, none⟩ = some (.int .i64 0) := (blk_cell ZX.out 4).trans rfl; have x_zf4 := blk_frozen ZX.out 4; have x_zc5 : w21m.cell? ⟨g10, 5, none⟩ = some (.int .i64 0) := (blk_cell ZX.out 5).trans rfl; have x_zf5 := blk_frozen ZX.out 5; have x_zc6 : w21m.cell? ⟨g10, 6, none⟩ = some (.int .i64 0) := (blk_cell ZX.out 6).trans rfl; have x_zf6 := blk_frozen ZX.out 6; have x_zc7 : w21m.cell? ⟨g10, 7, none⟩ = some (.int .i64 0) := (blk_cell ZX.out 7).trans rfl; have x_zf7 := blk_frozen ZX.out 7; have x_zc8 : w21m.cell? ⟨g10, 8, none⟩ = some (.int .i64 0) := (blk_cell ZX.out 8).trans rfl; have x_zf8 := blk_frozen ZX.out 8; have x_zc9 : w21m.cell? ⟨g10, 9, none⟩ = some (.int .i64 0) := (blk_cell ZX.out 9).trans rfl; have x_zf9 := blk_frozen ZX.out 9; have x_zc10 : w21m.cell? ⟨g10, 10, none⟩ = some (.int .i64 0) := (blk_cell ZX.out 10).trans rfl; have x_zf10 := blk_frozen ZX.out 10; have x_zc11 : w21m.cell? ⟨g10, 11, none⟩ = some (.int .i64 0) := (blk_cell ZX.out 11).trans rfl; have x_zf11 := blk_frozen ZX.out 11; have x_zc12 : w21m.cell? ⟨g10, 12, none⟩ = some (.bool false) := (blk_cell ZX.out 12).trans rfl; have x_zf12 := blk_frozen ZX.out 12; have x_zc13 : w21m.cell? ⟨g10, 13, none⟩ = some (.slice none 0 0) := (blk_cell ZX.out 13).trans rfl; have x_zf13 := blk_frozen ZX.out 13; have x_zc14 : w21m.cell? ⟨g10, 14, none⟩ = some (.slice none 0 0) := (blk_cell ZX.out 14).trans rfl; have x_zf14 := blk_frozen ZX.out 14; clear hb hg hbox))
  have NB21 := Aside0.mk (below_setB (below_setB (below_setB (below_setB (below_setB (below_setB (below_setB (below_setB (below_setB (below_setB (below_setB (below_setB (below_setB (below_setB (below_setB ZB.out (p := ⟨g10, 0, none⟩) X21g.out (.int .i64 q.f0)) (p := ⟨g10, 1, none⟩) X21g.out (.int .i64 q.f1)) (p := ⟨g10, 2, none⟩) X21g.out (.int .i64 q.f2)) (p := ⟨g10, 3, none⟩) X21g.out (.int .i64 q.f3)) (p := ⟨g10, 4, none⟩) X21g.out (.int .i64 q.f4.f0)) (p := ⟨g10, 5, none⟩) X21g.out (.int .i64 q.f4.f1.f0)) (p := ⟨g10, 6, none⟩) X21g.out (.int .i64 q.f4.f1.f1)) (p := ⟨g10, 7, none⟩) X21g.out (.int .i64 q.f4.f2)) (p := ⟨g10, 8, none⟩) X21g.out (.int .i64 q.f4.f3)) (p := ⟨g10, 9, none⟩) X21g.out (.int .i64 q.f4.f4)) (p := ⟨g10, 10, none⟩) X21g.out (.int .i64 q.f4.f5)) (p := ⟨g10, 11, none⟩) X21g.out (.int .i64 q.f4.f6)) (p := ⟨g10, 12, none⟩) X21g.out (.bool q.f4.f7)) (p := ⟨g10, 13, none⟩) X21g.out (.slice A8 q.f4.f8.length c8)) (p := ⟨g10, 14, none⟩) X21g.out (.slice A9 q.f4.f9.length c9)); have X21 := Aside0.mk (blk_put (blk_put (blk_put (blk_put (blk_put (blk_put (blk_put (blk_put (blk_put (blk_put (blk_put (blk_put (blk_put (blk_put (blk_put ZX.out 0 (.int .i64 q.f0) (cs' := #[.int .i64 q.f0, .int .i64 0, .int .i64 0, .int .i64 0, .int .i64 0, .int .i64 0, .int .i64 0, .int .i64 0, .int .i64 0, .int .i64 0, .int .i64 0, .int .i64 0, .bool false, .slice none 0 0, .slice none 0 0]) rfl) 1 (.int .i64 q.f1) (cs' := #[.int .i64 q.f0, .int .i64 q.f1, .int .i64 0, .int .i64 0, .int .i64 0, .int .i64 0, .int .i64 0, .int .i64 0, .int .i64 0, .int .i64 0, .int .i64 0, .int .i64 0, .bool false, .slice none 0 0, .slice none 0 0]) rfl) 2 (.int .i64 q.f2) (cs' := #[.int .i64 q.f0, .int .i64 q.f1, .int .i64 q.f2, .int .i64 0, .int .i64 0, .int .i64 0, .int .i64 0, .int .i64 0, .int .i64 0, .int .i64 0, .int .i64 0, .int .i64 0, .bool false, .slice none 0 0, .slice none 0 0]) rfl) 3 (.int .i64 q.f3) (cs' := #[.int .i64 q.f0, .int .i64 q.f1, .int .i64 q.f2, .int .i64 q.f3, .int .i64 0, .int .i64 0, .int .i64 0, .int .i64 0, .int .i64 0, .int .i64 0, .int .i64 0, .int .i64 0, .bool false, .slice none 0 0, .slice none 0 0]) rfl) 4 (.int .i64 q.f4.f0) (cs' := #[.int .i64 q.f0, .int .i64 q.f1, .int .i64 q.f2, .int .i64 q.f3, .int .i64 q.f4.f0, .int .i64 0, .int .i64 0, .int .i64 0, .int .i64 0, .int .i64 0, .int .i64 0, .int .i64 0, .bool false, .slice none 0 0, .slice none 0 0]) rfl) 5 (.int .i64 q.f4.f1.f0) (cs' := #[.int .i64 q.f0, .int .i64 q.f1, .int .i64 q.f2, .int .i64 q.f3, .int .i64 q.f4.f0, .int .i64 q.f4.f1.f0, .int .i64 0, .int .i64 0, .int .i64 0, .int .i64 0, .int .i64 0, .int .i64 0, .bool false, .slice none 0 0, .slice none 0 0]) rfl) 6 (.int .i64 q.f4.f1.f1) (cs' := #[.int .i64 q.f0, .int .i64 q.f1, .int .i64 q.f2, .int .i64 q.f3, .int .i64 q.f4.f0, .int .i64 q.f4.f1.f0, .int .i64 q.f4.f1.f1, .int .i64 0, .int .i64 0, .int .i64 0, .int .i64 0, .int .i64 0, .bool false, .slice none 0 0, .slice none 0 0]) rfl) 7 (.int .i64 q.f4.f2) (cs' := #[.int .i64 q.f0, .int .i64 q.f1, .int .i64 q.f2, .int .i64 q.f3, .int .i64 q.f4.f0, .int .i64 q.f4.f1.f0, .int .i64 q.f4.f1.f1, .int .i64 q.f4.f2, .int .i64 0, .int .i64 0, .int .i64 0, .int .i64 0, .bool false, .slice none 0 0, .slice none 0 0]) rfl) 8 (.int .i64 q.f4.f3) (cs' := #[.int .i64 q.f0, .int .i64 q.f1, .int .i64 q.f2, .int .i64 q.f3, .int .i64 q.f4.f0, .int .i64 q.f4.f1.f0, .int .i64 q.f4.f1.f1, .int .i64 q.f4.f2, .int .i64 q.f4.f3, .int .i64 0, .int .i64 0, .int .i64 0, .bool false, .slice none 0 0, .slice none 0 0]) rfl) 9 (.int .i64 q.f4.f4) (cs' := #[.int .i64 q.f0, .int .i64 q.f1, .int .i64 q.f2, .int .i64 q.f3, .int .i64 q.f4.f0, .int .i64 q.f4.f1.f0, .int .i64 q.f4.f1.f1, .int .i64 q.f4.f2, .int .i64 q.f4.f3, .int .i64 q.f4.f4, .int .i64 0, .int .i64 0, .bool false, .slice none 0 0, .slice none 0 0]) rfl) 10 (.int .i64 q.f4.f5) (cs' := #[.int .i64 q.f0, .int .i64 q.f1, .int .i64 q.f2, .int .i64 q.f3, .int .i64 q.f4.f0, .int .i64 q.f4.f1.f0, .int .i64 q.f4.f1.f1, .int .i64 q.f4.f2, .int .i64 q.f4.f3, .int .i64 q.f4.f4, .int .i64 q.f4.f5, .int .i64 0, .bool false, .slice none 0 0, .slice none 0 0]) rfl) 11 (.int .i64 q.f4.f6) (cs' := #[.int .i64 q.f0, .int .i64 q.f1, .int .i64 q.f2, .int .i64 q.f3, .int .i64 q.f4.f0, .int .i64 q.f4.f1.f0, .int .i64 q.f4.f1.f1, .int .i64 q.f4.f2, .int .i64 q.f4.f3, .int .i64 q.f4.f4, .int .i64 q.f4.f5, .int .i64 q.f4.f6, .bool false, .slice none 0 0, .slice none 0 0]) rfl) 12 (.bool q.f4.f7) (cs' := #[.int .i64 q.f0, .int .i64 q.f1, .int .i64 q.f2, .int .i64 q.f3, .int .i64 q.f4.f0, .int .i64 q.f4.f1.f0, .int .i64 q.f4.f1.f1, .int .i64 q.f4.f2, .int .i64 q.f4.f3, .int .i64 q.f4.f4, .int .i64 q.f4.f5, .int .i64 q.f4.f6, .bool q.f4.f7, .slice none 0 0, .slice none 0 0]) rfl) 13 (.slice A8 q.f4.f8.length c8) (cs' := #[.int .i64 q.f0, .int .i64 q.f1, .int .i64 q.f2, .int .i64 q.f3, .int .i64 q.f4.f0, .int .i64 q.f4.f1.f0, .int .i64 q.f4.f1.f1, .int .i64 q.f4.f2, .int .i64 q.f4.f3, .int .i64 q.f4.f4, .int .i64 q.f4.f5, .int .i64 q.f4.f6, .bool q.f4.f7, .slice A8 q.f4.f8.length c8, .slice none 0 0]) rfl) 14 (.slice A9 q.f4.f9.length c9) (cs' := #[.int .i64 q.f0, .int .i64 q.f1, .int .i64 q.f2, .int .i64 q.f3, .int .i64 q.f4.f0, .int .i64 q.f4.f1.f0, .int .i64 q.f4.f1.f1, .int .i64 q.f4.f2, .int .i64 q.f4.f3, .int .i64 q.f4.f4, .int .i64 q.f4.f5, .int .i64 q.f4.f6, .bool q.f4.f7, .slice A8 q.f4.f8.length c8, .slice A9 q.f4.f9.length c9]) rfl); clear ZB ZX x_zc0 x_zf0 x_zc1 x_zf1 x_zc2 x_zf2 x_zc3 x_zf3 x_zc4 x_zf4 x_zc5 x_zf5 x_zc6 x_zf6 x_zc7 x_zf7 x_zc8 x_zf8 x_zc9 x_zf9 x_zc10 x_zf10 x_zc11 x_zf11 x_zc12 x_zf12 x_zc13 x_zf13 x_zc14 x_zf14; generalize (((((((((((((((w21m.setCell ⟨g10, 0, none⟩ (.int .i64 q.f0)).setCell ⟨g10, 1, none⟩ (.int .i64 q.f1)).setCell ⟨g10, 2, none⟩ (.int .i64 q.f2)).setCell ⟨g10, 3, none⟩ (.int .i64 q.f3)).setCell ⟨g10, 4, none⟩ (.int .i64 q.f4.f0)).setCell ⟨g10, 5, none⟩ (.int .i64 q.f4.f1.f0)).setCell ⟨g10, 6, none⟩ (.int .i64 q.f4.f1.f1)).setCell ⟨g10, 7, none⟩ (.int .i64 q.f4.f2)).setCell ⟨g10, 8, none⟩ (.int .i64 q.f4.f3)).setCell ⟨g10, 9, none⟩ (.int .i64 q.f4.f4)).setCell ⟨g10, 10, none⟩ (.int .i64 q.f4.f5)).setCell ⟨g10, 11, none⟩ (.int .i64 q.f4.f6)).setCell ⟨g10, 12, none⟩ (.bool q.f4.f7)).setCell ⟨g10, 13, none⟩ (.slice A8 q.f4.f8.length c8)).setCell ⟨g10, 14, none⟩ (.slice A9 q.f4.f9.length c9)) = w21 at NB21 X21 ⊢; have B21 := Aside0.mk (below_step B20.out NB21.out); have I21 := Aside0.mk (I20.out.below NB21.out); 
  have z1 := ZB.out.1; have z2 := ZB.out.2
  refine start_ (n := 19) (S := fun w' => w'.cell? ⟨g10, 0, none⟩ = some (.int .i64 q.f0) ∧ w'.cell? ⟨g10, 1, none⟩ = some (.int .i64 q.f1) ∧ w'.cell? ⟨g10, 2, none⟩ = some (.int .i64 q.f2) ∧ w'.cell? ⟨g10, 3, none⟩ = some (.int .i64 q.f3) ∧ w'.cell? ⟨g10, 4, none⟩ = some (.int .i64 q.f4.f0) ∧ w'.cell? ⟨g10, 5, none⟩ = some (.int .i64 q.f4.f1.f0) ∧ w'.cell? ⟨g10, 6, none⟩ = some (.int .i64 q.f4.f1.f1) ∧ w'.cell? ⟨g10, 7, none⟩ = some (.int .i64 q.f4.f2) ∧ w'.cell? ⟨g10, 8, none⟩ = some (.int .i64 q.f4.f3) ∧ w'.cell? ⟨g10, 9, none⟩ = some (.int .i64 q.f4.f4) ∧ w'.cell? ⟨g10, 10, none⟩ = some (.int .i64 q.f4.f5) ∧ w'.cell? ⟨g10, 11, none⟩ = some (.int .i64 q.f4.f6) ∧ w'.cell? ⟨g10, 12, none⟩ = some (.bool q.f4.f7) ∧ w'.cell? ⟨g10, 13, none⟩ = some (.slice A8 q.f4.f8.length c8) ∧ w'.cell? ⟨g10, 14, none⟩ = some (.slice A9 q.f4.f9.length c9) ∧ w'.cell? (ad.add (i * 15)) = some (.int .i64 q.f0) ∧ w'.cell? ⟨(ad.add (i * 15)).block, (ad.add (i * 15)).off + 1, none⟩ = some (.int .i64 q.f1) ∧ w'.cell? ⟨(ad.add (i * 15)).block, (ad.add (i * 15)).off + 2, none⟩ = some (.int .i64 q.f2) ∧ w'.cell? ⟨(ad.add (i * 15)).block, (ad.add (i * 15)).off + 3, none⟩ = some (.int .i64 q.f3) ∧ w'.cell? ⟨(ad.add (i * 15)).block, (ad.add (i * 15)).off + 4, none⟩ = some (.int .i64 q.f4.f0) ∧ w'.cell? ⟨(ad.add (i * 15)).block, (ad.add (i * 15)).off + 5, none⟩ = some (.int .i64 q.f4.f1.f0) ∧ w'.cell? ⟨(ad.add (i * 15)).block, (ad.add (i * 15)).off + 6, none⟩ = some (.int .i64 q.f4.f1.f1) ∧ w'.cell? ⟨(ad.add (i * 15)).block, (ad.add (i * 15)).off + 7, none⟩ = some (.int .i64 q.f4.f2) ∧ w'.cell? ⟨(ad.add (i * 15)).block, (ad.add (i * 15)).off + 8, none⟩ = some (.int .i64 q.f4.f3) ∧ w'.cell? ⟨(ad.add (i * 15)).block, (ad.add (i * 15)).off + 9, none⟩ = some (.int .i64 q.f4.f4) ∧ w'.cell? ⟨(ad.add (i * 15)).block, (ad.add (i * 15)).off + 10, none⟩ = some (.int .i64 q.f4.f5) ∧ w'.cell? ⟨(ad.add (i * 15)).block, (ad.add (i * 15)).off + 11, none⟩ = some (.int .i64 q.f4.f6) ∧ w'.cell? ⟨(ad.add (i * 15)).block, (ad.add (i * 15)).off + 12, none⟩ = some (.bool q.f4.f7) ∧ w'.cell? ⟨(ad.add (i * 15)).block, (ad.add (i * 15)).off + 13, none⟩ = some (.slice A13 q.f4.f8.length c13) ∧ w'.cell? ⟨(ad.add (i * 15)).block, (ad.add (i * 15)).off + 14, none⟩ = some (.slice A14 q.f4.f9.length c14)) (ds := [8, 11]) #[false, false, false, false, false, false, false, false, false, false, false, false, false, false, false, false, false, false, false] (by kernel_rfl) rfl rfl ⟨(blk_cell (blk_drew X21.out) 0).trans rfl, (blk_cell (blk_drew X21.out) 1).trans rfl, (blk_cell (blk_drew X21.out) 2).trans rfl, (blk_cell (blk_drew X21.out) 3).trans rfl, (blk_cell (blk_drew X21.out) 4).trans rfl, (blk_cell (blk_drew X21.out) 5).trans rfl, (blk_cell (blk_drew X21.out) 6).trans rfl, (blk_cell (blk_drew X21.out) 7).trans rfl, (blk_cell (blk_drew X21.out) 8).trans rfl, (blk_cell (blk_drew X21.out) 9).trans rfl, (blk_cell (blk_drew X21.out) 10).trans rfl, (blk_cell (blk_drew X21.out) 11).trans rfl, (blk_cell (blk_drew X21.out) 12).trans rfl, (blk_cell (blk_drew X21.out) 13).trans rfl, (blk_cell (blk_drew X21.out) 14).trans rfl, cell_bel (w := w) EX.out.1 (below_drew B21.out), cell_bel (w := w) EX.out.2.1 (below_drew B21.out), cell_bel (w := w) EX.out.2.2.1 (below_drew B21.out), cell_bel (w := w) EX.out.2.2.2.1 (below_drew B21.out), cell_bel (w := w) EX.out.2.2.2.2.1 (below_drew B21.out), cell_bel (w := w) EX.out.2.2.2.2.2.1 (below_drew B21.out), cell_bel (w := w) EX.out.2.2.2.2.2.2.1 (below_drew B21.out), cell_bel (w := w) EX.out.2.2.2.2.2.2.2.1 (below_drew B21.out), cell_bel (w := w) EX.out.2.2.2.2.2.2.2.2.1 (below_drew B21.out), cell_bel (w := w) EX.out.2.2.2.2.2.2.2.2.2.1 (below_drew B21.out), cell_bel (w := w) EX.out.2.2.2.2.2.2.2.2.2.2.1 (below_drew B21.out), cell_bel (w := w) EX.out.2.2.2.2.2.2.2.2.2.2.2.1 (below_drew B21.out), cell_bel (w := w) EX.out.2.2.2.2.2.2.2.2.2.2.2.2.1 (below_drew B21.out), cell_bel (w := w) EX.out.2.2.2.2.2.2.2.2.2.2.2.2.2.1 (below_drew B21.out), cell_bel (w := w) EX.out.2.2.2.2.2.2.2.2.2.2.2.2.2.2 (below_drew B21.out)⟩ (fun hHeld => ?_)
  refine pure_ (i := 0) (N := some 57) (v := ?_) (a' := ?_) #[true, false, false, false, false, false, false, false, false, false, false, false, false, false, false, false, false, false, false] rfl rfl (by kernel_rfl) (fun _ _ _ h => h) (Or.inl ⟨by rfl, ?_⟩) ?_ ?_
  rotate_left
  · intro w'
    go_simp
    with_reducible rfl
  rotate_left
  · simp only [Act.put, List.setIfInBounds_toArray, List.set_cons_zero, List.set_cons_succ, i64_w, i32_w]
    rfl
  refine pure_ (i := 1) (N := some 58) (v := ?_) (a' := ?_) #[true, true, false, false, false, false, false, false, false, false, false, false, false, false, false, false, false, false, false] rfl rfl (by kernel_rfl) (fun _ _ _ h => h) (Or.inl ⟨by rfl, ?_⟩) ?_ ?_
  rotate_left
  · intro w'
    go_simp
    with_reducible rfl
  rotate_left
  · simp only [Act.put, List.setIfInBounds_toArray, List.set_cons_zero, List.set_cons_succ, i64_w, i32_w]
    rfl
  refine pure_ (i := 2) (N := some 59) (v := ?_) (a' := ?_) #[true, true, true, false, false, false, false, false, false, false, false, false, false, false, false, false, false, false, false] rfl rfl (by kernel_rfl) (fun _ _ _ h => h) (Or.inl ⟨by rfl, ?_⟩) ?_ ?_
  rotate_left
  · intro w'
    go_simp
    with_reducible rfl
  rotate_left
  · simp only [Act.put, List.setIfInBounds_toArray, List.set_cons_zero, List.set_cons_succ, i64_w, i32_w]
    rfl
  refine pure_ (i := 4) (N := some 61) (v := ?_) (a' := ?_) #[true, true, true, false, true, false, false, false, false, false, false, false, false, false, false, false, false, false, false] rfl rfl (by kernel_rfl) (fun _ _ _ h => h) (Or.inl ⟨by rfl, ?_⟩) ?_ ?_
  rotate_left
  · intro w'
    go_simp
    with_reducible rfl
  rotate_left
  · simp only [Act.put, List.setIfInBounds_toArray, List.set_cons_zero, List.set_cons_succ, i64_w, i32_w]
    rfl
  refine pure_ (i := 5) (N := some 62) (v := ?_) (a' := ?_) #[true, true, true, false, true, true, false, false, false, false, false, false, false, false, false, false, false, false, false] rfl rfl (by kernel_rfl) (fun _ _ _ h => h) (Or.inl ⟨by rfl, ?_⟩) ?_ ?_
  rotate_left
  · intro w'
    go_simp
    with_reducible rfl
  rotate_left
  · simp only [Act.put, List.setIfInBounds_toArray, List.set_cons_zero, List.set_cons_succ, i64_w, i32_w]
    rfl
  refine pure_ (i := 6) (N := some 63) (v := ?_) (a' := ?_) #[true, true, true, false, true, true, true, false, false, false, false, false, false, false, false, false, false, false, false] rfl rfl (by kernel_rfl) (fun _ _ _ h => h) (Or.inl ⟨by rfl, ?_⟩) ?_ ?_
  rotate_left
  · intro w'
    go_simp
    with_reducible rfl
  rotate_left
  · simp only [Act.put, List.setIfInBounds_toArray, List.set_cons_zero, List.set_cons_succ, i64_w, i32_w]
    rfl
  refine take_ (i := 3) (N := some 60) (v := ?_) (a' := ?_) #[true, true, true, true, true, true, true, false, false, false, false, false, false, false, false, false, false, false, false] rfl rfl (by kernel_rfl) (fun _ _ _ h => h) (Or.inl ⟨by rfl, ?_⟩) hHeld ?_ ?_
  rotate_left
  · rintro w' ⟨s0, s1, s2, s3, s4, s5, s6, s7, s8, s9, s10, s11, s12, s13, s14, s15, s16, s17, s18, s19, s20, s21, s22, s23, s24, s25, s26, s27, s28, s29⟩
    go_simp
    with_reducible rfl
  rotate_left
  · simp only [Act.put, List.setIfInBounds_toArray, List.set_cons_zero, List.set_cons_succ, i64_w, i32_w]
    rfl
  refine take_ (i := 7) (N := some 64) (v := ?_) (a' := ?_) #[true, true, true, true, true, true, true, true, false, false, false, false, false, false, false, false, false, false, false] rfl rfl (by kernel_rfl) (fun _ _ _ h => h) (Or.inl ⟨by rfl, ?_⟩) hHeld ?_ ?_
  rotate_left
  · rintro w' ⟨s0, s1, s2, s3, s4, s5, s6, s7, s8, s9, s10, s11, s12, s13, s14, s15, s16, s17, s18, s19, s20, s21, s22, s23, s24, s25, s26, s27, s28, s29⟩
    go_simp
    with_reducible rfl
  rotate_left
  · simp only [Act.put, List.setIfInBounds_toArray, List.set_cons_zero, List.set_cons_succ, i64_w, i32_w]
    rfl
  refine last_ (i := 8) (N := some 65) #[true, true, true, true, true, true, true, true, true, false, false, false, false, false, false, false, false, false, false] rfl rfl (by kernel_rfl) (by decide) (fun K hK => ?_)
  refine goes_ Try.func14 (by kernel_rfl) rfl #[.agg #[.int .i64 q.f0, .int .i64 q.f1, .int .i64 q.f2, .int .i64 q.f3, .int .i64 q.f4.f0, .int .i64 q.f4.f1.f0, .int .i64 q.f4.f1.f1, .int .i64 q.f4.f2, .int .i64 q.f4.f3, .int .i64 q.f4.f4, .int .i64 q.f4.f5, .int .i64 q.f4.f6, .bool q.f4.f7, .slice A8 q.f4.f8.length c8, .slice A9 q.f4.f9.length c9], .agg #[.int .i64 q.f0, .int .i64 q.f1, .int .i64 q.f2, .int .i64 q.f3, .int .i64 q.f4.f0, .int .i64 q.f4.f1.f0, .int .i64 q.f4.f1.f1, .int .i64 q.f4.f2, .int .i64 q.f4.f3, .int .i64 q.f4.f4, .int .i64 q.f4.f5, .int .i64 q.f4.f6, .bool q.f4.f7, .slice A13 q.f4.f8.length c13, .slice A14 q.f4.f9.length c14]] (by rfl) rfl rfl (by simp only [List.map_toArray, List.map_cons, List.map_nil]; rfl) ?_
  with_reducible refine (psame_calls (p := q) (w := w21.drew) (Kd.C_below O20.out (below_step NB21.out (below_drew (Below.refl _ _)))) (Kd.C_below Q20.out (below_step NB21.out (below_drew (Below.refl _ _)))) (Kd.C_below G13.out (below_drew B21.out)) (Kd.C_below G14.out (below_drew B21.out)) FT.out).mono ?_
  rintro x w22 ⟨rfl, hb⟩
  refine ⟨_, rfl, ?_⟩
  have B22 := Aside0.mk (below_step (below_drew B21.out) hb)
  have I22 := Aside0.mk ((I21.out.below (below_drew (Below.refl _ _))).below hb)
  clear hb
  refine hK.out _ _ ?_
  clear hK K
  refine norm_ (a' := ?_) ?_ ?_
  rotate_left
  · show Act.put _ (some 65) _ = _
    simp only [Act.put, List.setIfInBounds_toArray, List.set_cons_zero, List.set_cons_succ, i64_w, i32_w]
    rfl
  refine pure_ (i := 9) (N := some 66) (v := ?_) (a' := ?_) #[true, true, true, true, true, true, true, true, true, true, false, false, false, false, false, false, false, false, false] rfl rfl (by kernel_rfl) (fun _ _ _ h => h) (Or.inl ⟨by rfl, ?_⟩) ?_ ?_
  rotate_left
  · intro w'
    go_simp
    with_reducible rfl
  rotate_left
  · simp only [Act.put, List.setIfInBounds_toArray, List.set_cons_zero, List.set_cons_succ, i64_w, i32_w]
    rfl
  refine pure_ (i := 10) (N := some 67) (v := ?_) (a' := ?_) #[true, true, true, true, true, true, true, true, true, true, true, false, false, false, false, false, false, false, false] rfl rfl (by kernel_rfl) (fun _ _ _ h => h) (Or.inl ⟨by rfl, ?_⟩) ?_ ?_
  rotate_left
  · intro w'
    go_simp
    with_reducible rfl
  rotate_left
  · simp only [Act.put, List.setIfInBounds_toArray, List.set_cons_zero, List.set_cons_succ, i64_w, i32_w]
    rfl
  refine pure_ (i := 12) (N := some 69) (v := ?_) (a' := ?_) #[true, true, true, true, true, true, true, true, true, true, true, false, true, false, false, false, false, false, false] rfl rfl (by kernel_rfl) (fun _ _ _ h => h) (Or.inl ⟨by rfl, ?_⟩) ?_ ?_
  rotate_left
  · intro w'
    go_simp
    with_reducible rfl
  rotate_left
  · simp only [Act.put, List.setIfInBounds_toArray, List.set_cons_zero, List.set_cons_succ, i64_w, i32_w]
    rfl
  refine pure_ (i := 13) (N := some 70) (v := ?_) (a' := ?_) #[true, true, true, true, true, true, true, true, true, true, true, false, true, true, false, false, false, false, false] rfl rfl (by kernel_rfl) (fun _ _ _ h => h) (Or.inl ⟨by rfl, ?_⟩) ?_ ?_
  rotate_left
  · intro w'
    go_simp
    with_reducible rfl
  rotate_left
  · simp only [Act.put, List.setIfInBounds_toArray, List.set_cons_zero, List.set_cons_succ, i64_w, i32_w]
    rfl
  refine pure_ (i := 15) (N := some 72) (v := ?_) (a' := ?_) #[true, true, true, true, true, true, true, true, true, true, true, false, true, true, false, true, false, false, false] rfl rfl (by kernel_rfl) (fun _ _ _ h => h) (Or.inl ⟨by rfl, ?_⟩) ?_ ?_
  rotate_left
  · intro w'
    go_simp
    with_reducible rfl
  rotate_left
  · simp only [Act.put, List.setIfInBounds_toArray, List.set_cons_zero, List.set_cons_succ, i64_w, i32_w]
    rfl
  refine last_ (i := 11) (N := some 68) #[true, true, true, true, true, true, true, true, true, true, true, true, true, true, false, true, false, false, false] rfl rfl (by kernel_rfl) (by decide) (fun K hK => ?_)
  refine goes_ Try.func17 (by kernel_rfl) rfl #[.pointer (some ⟨g7, 0, none⟩)] (by rfl) rfl rfl (by simp only [List.map_toArray, List.map_cons, List.map_nil]; rfl) ?_
  with_reducible refine (net_Len I22.out).mono ?_
  rintro x w23 ⟨rfl, hb⟩
  refine ⟨_, rfl, ?_⟩
  have B23 := Aside0.mk (below_step B22.out hb)
  clear hb
  refine hK.out _ _ ?_
  clear hK K
  refine norm_ (a' := ?_) ?_ ?_
  rotate_left
  · show Act.put _ (some 68) _ = _
    simp only [Act.put, List.setIfInBounds_toArray, List.set_cons_zero, List.set_cons_succ, i64_w, i32_w]
    rfl
  refine pure_ (i := 14) (N := some 71) (v := ?_) (a' := ?_) #[true, true, true, true, true, true, true, true, true, true, true, true, true, true, true, true, false, false, false] rfl rfl (by kernel_rfl) (fun _ _ _ h => h) (Or.inl ⟨by rfl, ?_⟩) ?_ ?_
  rotate_left
  · intro w'
    go_simp
    with_reducible rfl
  rotate_left
  · simp only [Act.put, List.setIfInBounds_toArray, List.set_cons_zero, List.set_cons_succ, i64_w, i32_w]
    rfl
  refine pure_ (i := 16) (N := some 73) (v := ?_) (a' := ?_) #[true, true, true, true, true, true, true, true, true, true, true, true, true, true, true, true, true, false, false] rfl rfl (by kernel_rfl) (fun _ _ _ h => h) (Or.inl ⟨by rfl, ?_⟩) ?_ ?_
  rotate_left
  · intro w'
    go_simp
    with_reducible rfl
  rotate_left
  · simp only [Act.put, List.setIfInBounds_toArray, List.set_cons_zero, List.set_cons_succ, i64_w, i32_w]
    rfl
  refine pure_ (i := 17) (N := some 74) (v := ?_) (a' := ?_) #[true, true, true, true, true, true, true, true, true, true, true, true, true, true, true, true, true, true, false] rfl rfl (by kernel_rfl) (fun _ _ _ h => h) (Or.inl ⟨by rfl, ?_⟩) ?_ ?_
  rotate_left
  · intro w'
    go_simp
    with_reducible rfl
  rotate_left
  · simp only [Act.put, List.setIfInBounds_toArray, List.set_cons_zero, List.set_cons_succ, i64_w, i32_w]
    rfl
  refine pure_ (i := 18) (N := some 6) (v := ?_) (a' := ?_) #[true, true, true, true, true, true, true, true, true, true, true, true, true, true, true, true, true, true, true] rfl rfl (by kernel_rfl) (fun _ _ _ h => h) (Or.inl ⟨by rfl, ?_⟩) ?_ ?_
  rotate_left
  · intro w'
    go_simp
    with_reducible rfl
  rotate_left
  · simp only [Act.put, List.setIfInBounds_toArray, List.set_cons_zero, List.set_cons_succ, i64_w, i32_w]
    rfl
  refine done_ (by kernel_rfl) ?_
  go_wp2
  go_ret
  exact ⟨rfl, B23.out⟩
end Go.Proofs.Ythgdojaildccaaa.Pure
