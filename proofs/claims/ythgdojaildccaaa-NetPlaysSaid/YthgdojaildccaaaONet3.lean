/-
  The net: Send.
-/
import Derived.Test.YthgdojaildccaaaONet2
namespace Go.Proofs.Ythgdojaildccaaa.M
open Go.RowKit Go.Proofs.YthgdojaildccaaaW.PrintWords Go.Proofs.YthgdojaildccaaaW.PrintLast Go.Proofs.YthgdojaildccaaaW.PrintMore
set_option linter.unusedVariables false
set_option linter.unusedSimpArgs false
attribute [local go_sem] max2_int min2_int max_two min_two
theorem info37_ : (Try.prog.info? 37).map (fun i => (i.zero, i.size, i.bytes)) = some (some (.agg #[.int .i64 0, .int .i64 0, .int .i64 0, .int .i64 0, .int .i64 0, .int .i64 0, .int .i64 0, .int .i64 0, .int .i64 0, .int .i64 0, .int .i64 0, .int .i64 0, .bool false, .slice none 0 0, .slice none 0 0]), 15, 152) := by kernel_rfl
theorem below_gn {W w1 : World} (h : W.grownBy w1 none) : Below W.heap.size W w1 := ⟨h.os, h.tape, h.output, h.size, fun k hk => h.block k hk (by simp)⟩
theorem nk3_ {i n gk : Nat} (hi : i < n) (h : i + gk = n + 1) : (i + 1 ≤ n ∧ i + 1 + (gk - 1) = n + 1) ∧ 0 < gk := by omega
theorem cell_of_heap {w w' : World} {a : Addr} (h : w'.heap[a.block]? = w.heap[a.block]?) : w'.cell? a = w.cell? a := by
  unfold World.cell?; rw [h]
theorem mx_room {n r : Nat} (h : r = 8192 - n) : mx 0 (r : Int) = (r : Int) := by unfold mx; split <;> omega
theorem mn_room {r l m : Nat} (h : m = min r l) : mn (r : Int) (l : Int) = (m : Int) := by unfold mn; split <;> omega
/-- how many of so many are sent -/
def sentN (n l : Nat) : Nat := min (8192 - n) l
theorem take_next {l : List S37} {i : Nat} (h : i < l.length) : l.take (i + 1) = l.take i ++ [rd_T37 l (i : Int)] := by
  have e : rd_T37 l (i : Int) = l[i] := by simp [rd_T37, h]
  rw [e, ← List.take_append_getElem h]
theorem room_ {n l i m : Nat} (hm : m = sentN n l) (hi : i < m) (hn : n ≤ 8192) : n + i + 1 ≤ 8192 ∧ i < l := by unfold sentN at hm; omega
set_option maxHeartbeats 8000000 in
set_option maxRecDepth 100000 in
theorem net_Send {N : Nat} {P : Nat → Prop} {w : World} {g : Nat} {fl ps : List S37} {A : Option Addr} {c : Nat} (h : IsN N P w g fl) (hNw : N ≤ w.heap.size) (hC : ∀ w', Below N w w' → Kept w w' P → Kd.C k37 w' A ps.length ps) (hc : ps.length ≤ c) (hf : ∀ p ∈ ps, Fit p) :
    Calls Try.prog 12 #[.pointer (some ⟨g, 0, none⟩), .slice A ps.length c] w fun x w' => x = .returned (.int .i64 ((sentN fl.length ps.length : Nat) : Int)) ∧ IsN N (fun k => P k ∨ w.heap.size ≤ k) w' g (fl ++ ps.take (sentN fl.length ps.length)) ∧ Below N w w' ∧ Kept w w' P := by
  have HN := Aside0.mk h; have NW := Aside0.mk hNw; have HC := Aside0.mk hC; have HF := Aside0.mk hf
  obtain ⟨r, hr⟩ : ∃ r, r = 8192 - fl.length := ⟨_, rfl⟩
  obtain ⟨m, hm⟩ : ∃ m, m = sentN fl.length ps.length := ⟨_, rfl⟩
  have b1 : wrap64 (8192 - (fl.length : Int)) = (r : Int) := by have := h.2.2.1; unfold wrap64; omega
  have HMM := Aside0.mk (show m = min r ps.length by rw [hm, hr]; rfl)
  obtain ⟨i0, hi0, _, hsz0, _⟩ := info_parts info37_
  have hml : m ≤ ps.length := by rw [hm]; unfold sentN; omega
  have hcut := cut_to (P := Try.prog) 24 37 .i64 Try.underlying24 hi0 A ps.length c (m : Int) (by omega) (by omega) hc
  rw [Int.toNat_natCast] at hcut
  obtain ⟨h1, ⟨A1, c1, hb, hR⟩, h3, h4⟩ := h
  have xc0 : w.cell? ⟨g, 0, none⟩ = some (.slice A1 fl.length c1) := (blk_cell hb 0).trans rfl
  have HM := Aside0.mk hm; have HML := Aside0.mk hml; have HL := Aside0.mk h3; have HB := Aside0.mk hm
  clear hi0 hsz0 hm hr hml h1 hb hR h3 h4 hNw hC hc hf
  rw [← HM.out]
  go_enter Try.func12, Try.ntmps12
  have b2 : (if 0 < (r : Int) then (r : Int) else 0) = (r : Int) := by split <;> omega
  have b4 : (if ps.length < r then (ps.length : Int) else (r : Int)) = (m : Int) := by have := HMM.out; split <;> omega
  have b3 : (if (ps.length : Int) < (r : Int) then (ps.length : Int) else (r : Int)) = (m : Int) := by have := HMM.out; split <;> omega
  go_wp2_with (first | ((with_reducible refine gate_dst (N := 14) rfl ?_); refine Kd.event_run (W := w) (w1 := w) (v := .int .i64 (r : Int)) ?hg ?hr ?_; (case hg => rfl); (case hr => first | (go_simp; done) | (go_simp; intro hz_; omega))) | ((with_reducible refine gate_dst (N := 19) rfl ?_); refine Kd.event_run (W := w) (w1 := w) (v := .int .i64 (m : Int)) ?hg ?hr ?_; (case hg => rfl); (case hr => first | (go_simp; done) | (go_simp; omega))))
  clear b2 b3 b4
  clear xc0 hcut b1
  go_loopg [23] (m + 1) (fun kq v23 w' => ∃ (i : Nat), v23 = .int .i64 (i : Int) ∧ Aside0 (i ≤ m ∧ i + kq = m + 1) ∧ Aside0 (IsN N (fun k => P k ∨ w.heap.size ≤ k) w' g (fl ++ ps.take i)) ∧ Aside0 (Below N w w' ∧ Kept w w' P))
  case atStart => exact ⟨0, rfl, ⟨by omega, by omega⟩, ⟨by rw [List.take_zero, List.append_nil]; exact HN.out.mono (fun _ hk => .inl hk)⟩, ⟨Below.refl _ _, Kept.refl _ _⟩⟩
  case round =>
    obtain ⟨i, rfl, HI, HW, HK⟩ := hrel
    by_cases hi : i < m
    · have d1 : decide ((i : Int) < (m : Int)) = true := decide_eq_true (by omega)
      have d2 : decide (i < m) = true := decide_eq_true hi
      have d3 : (i < m) = True := eq_true hi
      have hi0 : (0 : Int) ≤ (i : Int) := by omega
      have hi1 : (i : Int) < (m : Int) := by omega
      obtain ⟨hroom, hil⟩ := room_ HM.out hi HL.out
      obtain ⟨ad, A13, c13, A14, c14, e1, x0, x1, x2, x3, x4, x5, x6, x7, x8, x9, x10, x11, x12, x13, x14, l13, g13, l14, g14⟩ := at_T37 (HC.out wr HK.out.1 HK.out.2) (i : Int) hi0 (by omega)
      have hfit := HF.out _ (show rd_T37 ps (i : Int) ∈ ps by rw [show rd_T37 ps (i : Int) = ps[i] by simp [rd_T37, hil]]; exact List.getElem_mem _)
      have htk := take_next hil
      subst e1
      obtain ⟨q, hq⟩ : ∃ q, q = rd_T37 ps (i : Int) := ⟨_, rfl⟩
      rw [← hq] at x0 x1 x2 x3 x4 x5 x6 x7 x8 x9 x10 x11 x12 x13 x14 l13 g13 l14 g14 hfit htk
      rw [Int.toNat_natCast] at x0 x1 x2 x3 x4 x5 x6 x7 x8 x9 x10 x11 x12 x13 x14
      have HT := Aside0.mk htk; have FT := Aside0.mk hfit; have FU := Aside0.mk (show q.f4.f8.length * 32 ≤ 140737488355328 ∧ q.f4.f9.length * 8 ≤ 140737488355328 from hfit); have G13 := Aside0.mk g13; have G14 := Aside0.mk g14
      have HIL := Aside0.mk (show (fl ++ ps.take i).length + 1 ≤ 8192 by rw [List.length_append, List.length_take]; omega)
      obtain ⟨FL, hFL⟩ : ∃ FL, FL = fl ++ ps.take i := ⟨_, rfl⟩
      have HT2 := Aside0.mk (show fl ++ ps.take (i + 1) = FL ++ [q] by rw [htk, hFL, List.append_assoc])
      rw [← hFL] at HW HIL
      obtain ⟨h1, ⟨A1, c1, hb, hR⟩, h3, h4⟩ := HW.out
      have GP := Aside0.mk h1; have F4 := Aside0.mk h4; have X0 := Aside0.mk hb; have R0 := Aside0.mk hR
      have b2 : wrap64 ((i : Int) + 1) = ((i + 1 : Nat) : Int) := by have := HIL.out; unfold wrap64; omega
      have q1 := eq_true hi0; have q2 := eq_true hi1; have q3 : decide ((0 : Int) ≤ (i : Int)) = true := decide_eq_true hi0
      have NK := Aside0.mk (nk3_ hi HI.out.2)
      clear hi hq hfit htk g13 g14 l13 l14 hFL h1 hb hR h3 h4 hil hroom
      go_upto_region 6 with (first | ((with_reducible refine gate_dst (N := 7) rfl ?_); refine box_event ?hg (N := 7) ?hd (cs := #[.int .i64 0, .int .i64 0, .int .i64 0, .int .i64 0, .int .i64 0, .int .i64 0, .int .i64 0, .int .i64 0, .int .i64 0, .int .i64 0, .int .i64 0, .int .i64 0, .bool false, .slice none 0 0, .slice none 0 0]) (t := 37) ?hr ?_; (case hd => rfl); (case hg => rfl); (case hr => first | (go_simp; done) | (go_simp; rfl)); intro gq hg w5m hbox hb; have ZB := Aside0.mk hb; have ZX := Aside0.mk hbox; have Y5g := Aside0.mk (show wr.heap.size ≤ gq from by rw [hg]; exact Nat.le_refl _); have y_zc0 : w5m.cell? ⟨gq, 0, none⟩ = some (.int .i64 0) := (blk_cell ZX.out 0).trans rfl; have y_zf0 := blk_frozen ZX.out 0; have y_zc1 : w5m.cell? ⟨gq, 1, none⟩ = some (.int .i64 0) := (blk_cell ZX.out 1).trans rfl; have y_zf1 := blk_frozen ZX.out 1; have y_zc2 : w5m.cell? ⟨gq, 2, none⟩ = some (.int .i64 0) := (blk_cell ZX.out 2).trans rfl; have y_zf2 := blk_frozen ZX.out 2; have y_zc3 : w5m.cell? ⟨gq, 3, none⟩ = some (.int .i64 0) := (blk_cell ZX.out 3).trans rfl; have y_zf3 := blk_frozen ZX.out 3; have y_zc4 : w5m.cell? ⟨gq, 4, none⟩ = some (.int .i64 0) := (blk_cell ZX.out 4).trans rfl; have y_zf4 := blk_frozen ZX.out 4; have y_zc5 : w5m.cell? ⟨gq, 5, none⟩ = some (.int .i64 0) := (blk_cell ZX.out 5).trans rfl; have y_zf5 := blk_frozen ZX.out 5; have y_zc6 : w5m.cell? ⟨gq, 6, none⟩ = some (.int .i64 0) := (blk_cell ZX.out 6).trans rfl; have y_zf6 := blk_frozen ZX.out 6; have y_zc7 : w5m.cell? ⟨gq, 7, none⟩ = some (.int .i64 0) := (blk_cell ZX.out 7).trans rfl; have y_zf7 := blk_frozen ZX.out 7; have y_zc8 : w5m.cell? ⟨gq, 8, none⟩ = some (.int .i64 0) := (blk_cell ZX.out 8).trans rfl; have y_zf8 := blk_frozen ZX.out 8; have y_zc9 : w5m.cell? ⟨gq, 9, none⟩ = some (.int .i64 0) := (blk_cell ZX.out 9).trans rfl; have y_zf9 := blk_frozen ZX.out 9; have y_zc10 : w5m.cell? ⟨gq, 10, none⟩ = some (.int .i64 0) := (blk_cell ZX.out 10).trans rfl; have y_zf10 := blk_frozen ZX.out 10; have y_zc11 : w5m.cell? ⟨gq, 11, none⟩ = some (.int .i64 0) := (blk_cell ZX.out 11).trans rfl; have y_zf11 := blk_frozen ZX.out 11; have y_zc12 : w5m.cell? ⟨gq, 12, none⟩ = some (.bool false) := (blk_cell ZX.out 12).trans rfl; have y_zf12 := blk_frozen ZX.out 12; have y_zc13 : w5m.cell? ⟨gq, 13, none⟩ = some (.slice none 0 0) := (blk_cell ZX.out 13).trans rfl; have y_zf13 := blk_frozen ZX.out 13; have y_zc14 : w5m.cell? ⟨gq, 14, none⟩ = some (.slice none 0 0) := (blk_cell ZX.out 14).trans rfl; have y_zf14 := blk_frozen ZX.out 14; clear hb hg hbox))
      have NB5 := Aside0.mk (below_setB (below_setB (below_setB (below_setB (below_setB (below_setB (below_setB (below_setB (below_setB (below_setB (below_setB (below_setB (below_setB (below_setB (below_setB ZB.out (p := ⟨gq, 0, none⟩) Y5g.out (.int .i64 q.f0)) (p := ⟨gq, 1, none⟩) Y5g.out (.int .i64 q.f1)) (p := ⟨gq, 2, none⟩) Y5g.out (.int .i64 q.f2)) (p := ⟨gq, 3, none⟩) Y5g.out (.int .i64 q.f3)) (p := ⟨gq, 4, none⟩) Y5g.out (.int .i64 q.f4.f0)) (p := ⟨gq, 5, none⟩) Y5g.out (.int .i64 q.f4.f1.f0)) (p := ⟨gq, 6, none⟩) Y5g.out (.int .i64 q.f4.f1.f1)) (p := ⟨gq, 7, none⟩) Y5g.out (.int .i64 q.f4.f2)) (p := ⟨gq, 8, none⟩) Y5g.out (.int .i64 q.f4.f3)) (p := ⟨gq, 9, none⟩) Y5g.out (.int .i64 q.f4.f4)) (p := ⟨gq, 10, none⟩) Y5g.out (.int .i64 q.f4.f5)) (p := ⟨gq, 11, none⟩) Y5g.out (.int .i64 q.f4.f6)) (p := ⟨gq, 12, none⟩) Y5g.out (.bool q.f4.f7)) (p := ⟨gq, 13, none⟩) Y5g.out (.slice A13 q.f4.f8.length c13)) (p := ⟨gq, 14, none⟩) Y5g.out (.slice A14 q.f4.f9.length c14)); have Y5 := Aside0.mk (blk_put (blk_put (blk_put (blk_put (blk_put (blk_put (blk_put (blk_put (blk_put (blk_put (blk_put (blk_put (blk_put (blk_put (blk_put ZX.out 0 (.int .i64 q.f0) (cs' := #[.int .i64 q.f0, .int .i64 0, .int .i64 0, .int .i64 0, .int .i64 0, .int .i64 0, .int .i64 0, .int .i64 0, .int .i64 0, .int .i64 0, .int .i64 0, .int .i64 0, .bool false, .slice none 0 0, .slice none 0 0]) rfl) 1 (.int .i64 q.f1) (cs' := #[.int .i64 q.f0, .int .i64 q.f1, .int .i64 0, .int .i64 0, .int .i64 0, .int .i64 0, .int .i64 0, .int .i64 0, .int .i64 0, .int .i64 0, .int .i64 0, .int .i64 0, .bool false, .slice none 0 0, .slice none 0 0]) rfl) 2 (.int .i64 q.f2) (cs' := #[.int .i64 q.f0, .int .i64 q.f1, .int .i64 q.f2, .int .i64 0, .int .i64 0, .int .i64 0, .int .i64 0, .int .i64 0, .int .i64 0, .int .i64 0, .int .i64 0, .int .i64 0, .bool false, .slice none 0 0, .slice none 0 0]) rfl) 3 (.int .i64 q.f3) (cs' := #[.int .i64 q.f0, .int .i64 q.f1, .int .i64 q.f2, .int .i64 q.f3, .int .i64 0, .int .i64 0, .int .i64 0, .int .i64 0, .int .i64 0, .int .i64 0, .int .i64 0, .int .i64 0, .bool false, .slice none 0 0, .slice none 0 0]) rfl) 4 (.int .i64 q.f4.f0) (cs' := #[.int .i64 q.f0, .int .i64 q.f1, .int .i64 q.f2, .int .i64 q.f3, .int .i64 q.f4.f0, .int .i64 0, .int .i64 0, .int .i64 0, .int .i64 0, .int .i64 0, .int .i64 0, .int .i64 0, .bool false, .slice none 0 0, .slice none 0 0]) rfl) 5 (.int .i64 q.f4.f1.f0) (cs' := #[.int .i64 q.f0, .int .i64 q.f1, .int .i64 q.f2, .int .i64 q.f3, .int .i64 q.f4.f0, .int .i64 q.f4.f1.f0, .int .i64 0, .int .i64 0, .int .i64 0, .int .i64 0, .int .i64 0, .int .i64 0, .bool false, .slice none 0 0, .slice none 0 0]) rfl) 6 (.int .i64 q.f4.f1.f1) (cs' := #[.int .i64 q.f0, .int .i64 q.f1, .int .i64 q.f2, .int .i64 q.f3, .int .i64 q.f4.f0, .int .i64 q.f4.f1.f0, .int .i64 q.f4.f1.f1, .int .i64 0, .int .i64 0, .int .i64 0, .int .i64 0, .int .i64 0, .bool false, .slice none 0 0, .slice none 0 0]) rfl) 7 (.int .i64 q.f4.f2) (cs' := #[.int .i64 q.f0, .int .i64 q.f1, .int .i64 q.f2, .int .i64 q.f3, .int .i64 q.f4.f0, .int .i64 q.f4.f1.f0, .int .i64 q.f4.f1.f1, .int .i64 q.f4.f2, .int .i64 0, .int .i64 0, .int .i64 0, .int .i64 0, .bool false, .slice none 0 0, .slice none 0 0]) rfl) 8 (.int .i64 q.f4.f3) (cs' := #[.int .i64 q.f0, .int .i64 q.f1, .int .i64 q.f2, .int .i64 q.f3, .int .i64 q.f4.f0, .int .i64 q.f4.f1.f0, .int .i64 q.f4.f1.f1, .int .i64 q.f4.f2, .int .i64 q.f4.f3, .int .i64 0, .int .i64 0, .int .i64 0, .bool false, .slice none 0 0, .slice none 0 0]) rfl) 9 (.int .i64 q.f4.f4) (cs' := #[.int .i64 q.f0, .int .i64 q.f1, .int .i64 q.f2, .int .i64 q.f3, .int .i64 q.f4.f0, .int .i64 q.f4.f1.f0, .int .i64 q.f4.f1.f1, .int .i64 q.f4.f2, .int .i64 q.f4.f3, .int .i64 q.f4.f4, .int .i64 0, .int .i64 0, .bool false, .slice none 0 0, .slice none 0 0]) rfl) 10 (.int .i64 q.f4.f5) (cs' := #[.int .i64 q.f0, .int .i64 q.f1, .int .i64 q.f2, .int .i64 q.f3, .int .i64 q.f4.f0, .int .i64 q.f4.f1.f0, .int .i64 q.f4.f1.f1, .int .i64 q.f4.f2, .int .i64 q.f4.f3, .int .i64 q.f4.f4, .int .i64 q.f4.f5, .int .i64 0, .bool false, .slice none 0 0, .slice none 0 0]) rfl) 11 (.int .i64 q.f4.f6) (cs' := #[.int .i64 q.f0, .int .i64 q.f1, .int .i64 q.f2, .int .i64 q.f3, .int .i64 q.f4.f0, .int .i64 q.f4.f1.f0, .int .i64 q.f4.f1.f1, .int .i64 q.f4.f2, .int .i64 q.f4.f3, .int .i64 q.f4.f4, .int .i64 q.f4.f5, .int .i64 q.f4.f6, .bool false, .slice none 0 0, .slice none 0 0]) rfl) 12 (.bool q.f4.f7) (cs' := #[.int .i64 q.f0, .int .i64 q.f1, .int .i64 q.f2, .int .i64 q.f3, .int .i64 q.f4.f0, .int .i64 q.f4.f1.f0, .int .i64 q.f4.f1.f1, .int .i64 q.f4.f2, .int .i64 q.f4.f3, .int .i64 q.f4.f4, .int .i64 q.f4.f5, .int .i64 q.f4.f6, .bool q.f4.f7, .slice none 0 0, .slice none 0 0]) rfl) 13 (.slice A13 q.f4.f8.length c13) (cs' := #[.int .i64 q.f0, .int .i64 q.f1, .int .i64 q.f2, .int .i64 q.f3, .int .i64 q.f4.f0, .int .i64 q.f4.f1.f0, .int .i64 q.f4.f1.f1, .int .i64 q.f4.f2, .int .i64 q.f4.f3, .int .i64 q.f4.f4, .int .i64 q.f4.f5, .int .i64 q.f4.f6, .bool q.f4.f7, .slice A13 q.f4.f8.length c13, .slice none 0 0]) rfl) 14 (.slice A14 q.f4.f9.length c14) (cs' := #[.int .i64 q.f0, .int .i64 q.f1, .int .i64 q.f2, .int .i64 q.f3, .int .i64 q.f4.f0, .int .i64 q.f4.f1.f0, .int .i64 q.f4.f1.f1, .int .i64 q.f4.f2, .int .i64 q.f4.f3, .int .i64 q.f4.f4, .int .i64 q.f4.f5, .int .i64 q.f4.f6, .bool q.f4.f7, .slice A13 q.f4.f8.length c13, .slice A14 q.f4.f9.length c14]) rfl); clear ZB ZX y_zc0 y_zf0 y_zc1 y_zf1 y_zc2 y_zf2 y_zc3 y_zf3 y_zc4 y_zf4 y_zc5 y_zf5 y_zc6 y_zf6 y_zc7 y_zf7 y_zc8 y_zf8 y_zc9 y_zf9 y_zc10 y_zf10 y_zc11 y_zf11 y_zc12 y_zf12 y_zc13 y_zf13 y_zc14 y_zf14; generalize (((((((((((((((w5m.setCell ⟨gq, 0, none⟩ (.int .i64 q.f0)).setCell ⟨gq, 1, none⟩ (.int .i64 q.f1)).setCell ⟨gq, 2, none⟩ (.int .i64 q.f2)).setCell ⟨gq, 3, none⟩ (.int .i64 q.f3)).setCell ⟨gq, 4, none⟩ (.int .i64 q.f4.f0)).setCell ⟨gq, 5, none⟩ (.int .i64 q.f4.f1.f0)).setCell ⟨gq, 6, none⟩ (.int .i64 q.f4.f1.f1)).setCell ⟨gq, 7, none⟩ (.int .i64 q.f4.f2)).setCell ⟨gq, 8, none⟩ (.int .i64 q.f4.f3)).setCell ⟨gq, 9, none⟩ (.int .i64 q.f4.f4)).setCell ⟨gq, 10, none⟩ (.int .i64 q.f4.f5)).setCell ⟨gq, 11, none⟩ (.int .i64 q.f4.f6)).setCell ⟨gq, 12, none⟩ (.bool q.f4.f7)).setCell ⟨gq, 13, none⟩ (.slice A13 q.f4.f8.length c13)).setCell ⟨gq, 14, none⟩ (.slice A14 q.f4.f9.length c14)) = w5 at NB5 Y5 ⊢; have B5 := Aside0.mk (show Below N w w5 from HK.out.1.trans (NB5.out.mono (Nat.le_trans NW.out HK.out.1.size))); have K5 := Aside0.mk (HK.out.2.below NB5.out); have X5 := Aside0.mk (blk_below X0.out NB5.out); have R5 := Aside0.mk (Kd.R_below R0.out NB5.out); 
      clear x0 x1 x2 x3 x4 x5 x6 x7 x8 x9 x10 x11 x12 x13 x14
      have NS := Aside0.mk (Nat.le_trans NW.out K5.out.1); have WS := Aside0.mk K5.out.1; have HK5 := Aside0.mk NB5.out
      have VB := Aside0.mk (show ∀ k, (Value.slice A1 FL.length c1).ownBlock = some k → k < w5.heap.size from fun k hk => by obtain ⟨inner, ho⟩ := Kd.R_own R5.out; exact own_lt ho k hk)
      refine start_ (n := 12) (S := fun w' => w'.cell? ⟨g, 0, none⟩ = some (.slice A1 FL.length c1) ∧ w'.cell? ⟨gq, 0, none⟩ = some (.int .i64 q.f0) ∧ w'.cell? ⟨gq, 1, none⟩ = some (.int .i64 q.f1) ∧ w'.cell? ⟨gq, 2, none⟩ = some (.int .i64 q.f2) ∧ w'.cell? ⟨gq, 3, none⟩ = some (.int .i64 q.f3) ∧ w'.cell? ⟨gq, 4, none⟩ = some (.int .i64 q.f4.f0) ∧ w'.cell? ⟨gq, 5, none⟩ = some (.int .i64 q.f4.f1.f0) ∧ w'.cell? ⟨gq, 6, none⟩ = some (.int .i64 q.f4.f1.f1) ∧ w'.cell? ⟨gq, 7, none⟩ = some (.int .i64 q.f4.f2) ∧ w'.cell? ⟨gq, 8, none⟩ = some (.int .i64 q.f4.f3) ∧ w'.cell? ⟨gq, 9, none⟩ = some (.int .i64 q.f4.f4) ∧ w'.cell? ⟨gq, 10, none⟩ = some (.int .i64 q.f4.f5) ∧ w'.cell? ⟨gq, 11, none⟩ = some (.int .i64 q.f4.f6) ∧ w'.cell? ⟨gq, 12, none⟩ = some (.bool q.f4.f7) ∧ w'.cell? ⟨gq, 13, none⟩ = some (.slice A13 q.f4.f8.length c13) ∧ w'.cell? ⟨gq, 14, none⟩ = some (.slice A14 q.f4.f9.length c14)) (ds := [8, 11]) #[false, false, false, false, false, false, false, false, false, false, false, false] (by kernel_rfl) rfl rfl ⟨(blk_cell (blk_drew X5.out) 0).trans rfl, (blk_cell (blk_drew Y5.out) 0).trans rfl, (blk_cell (blk_drew Y5.out) 1).trans rfl, (blk_cell (blk_drew Y5.out) 2).trans rfl, (blk_cell (blk_drew Y5.out) 3).trans rfl, (blk_cell (blk_drew Y5.out) 4).trans rfl, (blk_cell (blk_drew Y5.out) 5).trans rfl, (blk_cell (blk_drew Y5.out) 6).trans rfl, (blk_cell (blk_drew Y5.out) 7).trans rfl, (blk_cell (blk_drew Y5.out) 8).trans rfl, (blk_cell (blk_drew Y5.out) 9).trans rfl, (blk_cell (blk_drew Y5.out) 10).trans rfl, (blk_cell (blk_drew Y5.out) 11).trans rfl, (blk_cell (blk_drew Y5.out) 12).trans rfl, (blk_cell (blk_drew Y5.out) 13).trans rfl, (blk_cell (blk_drew Y5.out) 14).trans rfl⟩ (fun hHeld => ?_)
      refine pure_ (i := 0) (N := some 27) (v := ?_) (a' := ?_) #[true, false, false, false, false, false, false, false, false, false, false, false] rfl rfl (by kernel_rfl) (fun _ _ _ h => h) (Or.inl ⟨by rfl, ?_⟩) ?_ ?_
      rotate_left
      · intro w'
        go_simp
        with_reducible rfl
      rotate_left
      · simp only [Act.put, List.setIfInBounds_toArray, List.set_cons_zero, List.set_cons_succ, i64_w, i32_w]
        rfl
      refine pure_ (i := 1) (N := some 28) (v := ?_) (a' := ?_) #[true, true, false, false, false, false, false, false, false, false, false, false] rfl rfl (by kernel_rfl) (fun _ _ _ h => h) (Or.inl ⟨by rfl, ?_⟩) ?_ ?_
      rotate_left
      · intro w'
        go_simp
        with_reducible rfl
      rotate_left
      · simp only [Act.put, List.setIfInBounds_toArray, List.set_cons_zero, List.set_cons_succ, i64_w, i32_w]
        rfl
      refine pure_ (i := 2) (N := some 29) (v := ?_) (a' := ?_) #[true, true, true, false, false, false, false, false, false, false, false, false] rfl rfl (by kernel_rfl) (fun _ _ _ h => h) (Or.inl ⟨by rfl, ?_⟩) ?_ ?_
      rotate_left
      · intro w'
        go_simp
        with_reducible rfl
      rotate_left
      · simp only [Act.put, List.setIfInBounds_toArray, List.set_cons_zero, List.set_cons_succ, i64_w, i32_w]
        rfl
      refine pure_ (i := 3) (N := some 30) (v := ?_) (a' := ?_) #[true, true, true, true, false, false, false, false, false, false, false, false] rfl rfl (by kernel_rfl) (fun _ _ _ h => h) (Or.inl ⟨by rfl, ?_⟩) ?_ ?_
      rotate_left
      · intro w'
        go_simp
        with_reducible rfl
      rotate_left
      · simp only [Act.put, List.setIfInBounds_toArray, List.set_cons_zero, List.set_cons_succ, i64_w, i32_w]
        rfl
      refine take_ (i := 4) (N := some 31) (v := ?_) (a' := ?_) #[true, true, true, true, true, false, false, false, false, false, false, false] rfl rfl (by kernel_rfl) (fun _ _ _ h => h) (Or.inl ⟨by rfl, ?_⟩) hHeld ?_ ?_
      rotate_left
      · rintro w' ⟨s0, s1, s2, s3, s4, s5, s6, s7, s8, s9, s10, s11, s12, s13, s14, s15⟩
        go_simp
        with_reducible rfl
      rotate_left
      · simp only [Act.put, List.setIfInBounds_toArray, List.set_cons_zero, List.set_cons_succ, i64_w, i32_w]
        rfl
      refine take_ (i := 5) (N := some 32) (v := ?_) (a' := ?_) #[true, true, true, true, true, true, false, false, false, false, false, false] rfl rfl (by kernel_rfl) (fun _ _ _ h => h) (Or.inl ⟨by rfl, ?_⟩) hHeld ?_ ?_
      rotate_left
      · rintro w' ⟨s0, s1, s2, s3, s4, s5, s6, s7, s8, s9, s10, s11, s12, s13, s14, s15⟩
        go_simp
        with_reducible rfl
      rotate_left
      · simp only [Act.put, List.setIfInBounds_toArray, List.set_cons_zero, List.set_cons_succ, i64_w, i32_w]
        rfl
      refine one_ (i := 6) (N := some 33) #[true, true, true, true, true, true, true, false, false, false, false, false] rfl rfl (by kernel_rfl) (by decide) (fun K hK => ?_)
      refine goes_ Try.func25 (by kernel_rfl) rfl #[.agg #[.int .i64 q.f0, .int .i64 q.f1, .int .i64 q.f2, .int .i64 q.f3, .int .i64 q.f4.f0, .int .i64 q.f4.f1.f0, .int .i64 q.f4.f1.f1, .int .i64 q.f4.f2, .int .i64 q.f4.f3, .int .i64 q.f4.f4, .int .i64 q.f4.f5, .int .i64 q.f4.f6, .bool q.f4.f7, .slice A13 q.f4.f8.length c13, .slice A14 q.f4.f9.length c14]] (by rfl) rfl rfl (by simp only [List.map_toArray, List.map_cons, List.map_nil]; rfl) ?_
      with_reducible refine (copied_calls (w := w5.drew) (p := q) (A8 := A13) (C8 := c13) (A9 := A14) (C9 := c14) (Kd.C_below G13.out (below_step (below_step HK5.out (Below.refl _ _)) (below_drew1 (Below.refl w5.heap.size w5)))) (Kd.C_below G14.out (below_step HK5.out (below_drew1 (Below.refl w5.heap.size w5)))) FU.out.1 FU.out.2).mono ?_
      rintro x w6 ⟨v, rfl, ⟨v8, v9, rfl, hO, hQ⟩, hb⟩
      refine ⟨_, rfl, ?_⟩
      obtain ⟨A8, c8, e8⟩ := Kd.R_slice hO
      obtain ⟨A9, c9, e9⟩ := Kd.R_slice hQ
      subst e8 e9
      have X6 := Aside0.mk (blk_below (blk_drew X5.out) hb)
      have Y6 := Aside0.mk (blk_below (blk_drew Y5.out) hb)
      have NB6 := Aside0.mk (below_step (below_drew1 (Below.refl w5.heap.size w5)) hb)
      have R6 := Aside0.mk (Kd.R_below (Kd.R_drew R5.out) hb)
      have O6 := Aside0.mk (Kd.R_mono (ok' := fun k => w5.drew.heap.size ≤ k) (Kd.R_bound hO) (fun k hk => hk.2.1))
      have Q6 := Aside0.mk (Kd.R_mono (ok' := fun k => w5.drew.heap.size ≤ k) (Kd.R_bound hQ) (fun k hk => hk.2.1))
      clear hO hQ hb
      dsimp only [pkV]
      refine hK.out _ _ ⟨(blk_cell X6.out 0).trans rfl, (blk_cell Y6.out 0).trans rfl, (blk_cell Y6.out 1).trans rfl, (blk_cell Y6.out 2).trans rfl, (blk_cell Y6.out 3).trans rfl, (blk_cell Y6.out 4).trans rfl, (blk_cell Y6.out 5).trans rfl, (blk_cell Y6.out 6).trans rfl, (blk_cell Y6.out 7).trans rfl, (blk_cell Y6.out 8).trans rfl, (blk_cell Y6.out 9).trans rfl, (blk_cell Y6.out 10).trans rfl, (blk_cell Y6.out 11).trans rfl, (blk_cell Y6.out 12).trans rfl, (blk_cell Y6.out 13).trans rfl, (blk_cell Y6.out 14).trans rfl⟩ (fun hHeld => ?_)
      clear hK K
      refine norm_ (a' := ?_) ?_ ?_
      rotate_left
      · show Act.put _ (some 33) _ = _
        simp only [Act.put, List.setIfInBounds_toArray, List.set_cons_zero, List.set_cons_succ, i64_w, i32_w]
        rfl
      refine one_ (i := 7) (N := some 34) #[true, true, true, true, true, true, true, true, false, false, false, false] rfl rfl (by kernel_rfl) (by decide) (fun K hK => ?_)
      refine Kd.R_lit_step k37 (w0 := w6) N 37 (by rfl) (N := 34) ?hd (xs := [q]) (inner := [.int .i64 q.f0, .int .i64 q.f1, .int .i64 q.f2, .int .i64 q.f3, .int .i64 q.f4.f0, .int .i64 q.f4.f1.f0, .int .i64 q.f4.f1.f1, .int .i64 q.f4.f2, .int .i64 q.f4.f3, .int .i64 q.f4.f4, .int .i64 q.f4.f5, .int .i64 q.f4.f6, .bool q.f4.f7, .slice A8 q.f4.f8.length c8, .slice A9 q.f4.f9.length c9]) (ok := fun k => w5.drew.heap.size ≤ k) (okp := fun k => w5.drew.heap.size ≤ k) ?hr ?hp (fun _ hk => hk) NB6.out.size (Below.refl _ _) (Nat.le_trans NS.out NB6.out.size) (by simp) ?_
      (case hd => rfl)
      (case hr => first | (go_simp; done) | (go_simp; rfl))
      (case hp => exact Reps.front (k37_mkM w6 N (fun k => w5.drew.heap.size ≤ k) q (Kd.R_lower O6.out NS.out) (Kd.R_lower Q6.out NS.out)) rfl (Reps.none _ _) (List.append_nil _))
      intro vL w7 hoL hb hg_ hnew_
      have hbL := below_gn hg_
      obtain ⟨AL, cL, eL, hlL, hrL⟩ := OwnRow.reads hoL.2
      subst eL
      have X7 := Aside0.mk (blk_below X6.out hbL)
      have NB7 := Aside0.mk (below_step NB6.out hbL)
      have R7 := Aside0.mk (Kd.R_below R6.out hbL)
      have RL := Aside0.mk hrL
      have B7 := Aside0.mk (show Below N w w7 from B5.out.trans (NB7.out.mono NS.out))
      have K7 := Aside0.mk (K5.out.below NB7.out)
      have HBL7 := Aside0.mk hbL
      clear hoL hb hg_ hnew_ hbL hrL hlL
      refine hK.out _ _ ⟨(blk_cell X7.out 0).trans rfl, (blk_cell (blk_below Y6.out HBL7.out) 0).trans rfl, (blk_cell (blk_below Y6.out HBL7.out) 1).trans rfl, (blk_cell (blk_below Y6.out HBL7.out) 2).trans rfl, (blk_cell (blk_below Y6.out HBL7.out) 3).trans rfl, (blk_cell (blk_below Y6.out HBL7.out) 4).trans rfl, (blk_cell (blk_below Y6.out HBL7.out) 5).trans rfl, (blk_cell (blk_below Y6.out HBL7.out) 6).trans rfl, (blk_cell (blk_below Y6.out HBL7.out) 7).trans rfl, (blk_cell (blk_below Y6.out HBL7.out) 8).trans rfl, (blk_cell (blk_below Y6.out HBL7.out) 9).trans rfl, (blk_cell (blk_below Y6.out HBL7.out) 10).trans rfl, (blk_cell (blk_below Y6.out HBL7.out) 11).trans rfl, (blk_cell (blk_below Y6.out HBL7.out) 12).trans rfl, (blk_cell (blk_below Y6.out HBL7.out) 13).trans rfl, (blk_cell (blk_below Y6.out HBL7.out) 14).trans rfl⟩ (fun hHeld => ?_)
      clear hK K
      refine norm_ (a' := ?_) ?_ ?_
      rotate_left
      · show Act.put _ (some 34) _ = _
        simp only [Act.put, List.setIfInBounds_toArray, List.set_cons_zero, List.set_cons_succ, i64_w, i32_w]
        rfl
      refine last_ (i := 8) (N := some 35) #[true, true, true, true, true, true, true, true, true, false, false, false] rfl rfl (by kernel_rfl) (by decide) (fun K hK => ?_)
      refine Kd.R_append_rows_step k37 (Rr := k37.M w7 N (fun k => w5.drew.heap.size ≤ k ∧ some k ≠ (Value.slice AL 1 cL).ownBlock)) (w0 := w) N (by rfl) (.tmp 31) (.tmp 34) 24 37 (.agg #[.int .i64 0, .int .i64 0, .int .i64 0, .int .i64 0, .int .i64 0, .int .i64 0, .int .i64 0, .int .i64 0, .int .i64 0, .int .i64 0, .int .i64 0, .int .i64 0, .bool false, .slice none 0 0, .slice none 0 0]) 152 rfl Try.underlying24 info37_ rfl (by decide) (by omega) (.slice A1 FL.length c1) FL [q] _ _ _ (fun k => (P k ∨ w.heap.size ≤ k) ∧ k ≠ g) (fun k => w5.drew.heap.size ≤ k ∧ some k ≠ (Value.slice AL 1 cL).ownBlock) rfl rfl ?aO ?aR (fun _ _ h => h) ?aK ?aF ?aB ?aS ?aL ?_
      (case aR => exact RL.out)
      (case aK => exact (fun k hk => ⟨⟨.inr (Nat.le_trans WS.out hk.1), Nat.ne_of_gt (Nat.lt_of_lt_of_le (blk_lt X5.out) hk.1)⟩, fun e => Nat.lt_irrefl _ (Nat.lt_of_lt_of_le (VB.out k e.symm) hk.1)⟩))
      (case aB => exact B7.out)
      (case aF => exact (fun k hk => ⟨.inr (Nat.le_trans (Nat.le_trans WS.out NB7.out.size) hk), Nat.ne_of_gt (Nat.lt_of_lt_of_le (blk_lt X7.out) hk)⟩))
      (case aO => exact R7.out)
      (case aS => exact Nat.le_trans NS.out NB7.out.size)
      (case aL => have := HIL.out; simp only [List.length_cons, List.length_nil]; omega)
      intro v8_ w8 ho hb hg hat
      obtain ⟨A8_, c8_, e8_⟩ := Kd.R_slice ho
      subst e8_
      have hlen : (FL ++ [q]).length = FL.length + 1 := (by simp)
      rw [hlen] at ho
      have HLEN := Aside0.mk hlen
      have X8 := Aside0.mk (blk_grown X7.out hg (fun e => (R7.out.1 g e.symm).2 rfl))
      have O8 := Aside0.mk ho
      have B8 := Aside0.mk hb
      have K8 := Aside0.mk (Kept.of_grown hg K7.out (fun k e => (R7.out.1 k e).1))
      have zc0 := (blk_cell X8.out 0).trans rfl
      have zf0 := blk_frozen X8.out 0
      clear ho hb hg hat hlen
      refine hK.out _ _ ?_
      clear hK K
      refine norm_ (a' := ?_) ?_ ?_
      rotate_left
      · show Act.put _ (some 35) _ = _
        simp only [Act.put, List.setIfInBounds_toArray, List.set_cons_zero, List.set_cons_succ, i64_w, i32_w]
        rfl
      refine pure_ (i := 9) (N := some 36) (v := ?_) (a' := ?_) #[true, true, true, true, true, true, true, true, true, true, false, false] rfl rfl (by kernel_rfl) (fun _ _ _ h => h) (Or.inl ⟨by rfl, ?_⟩) ?_ ?_
      rotate_left
      · intro w'
        go_simp
        with_reducible rfl
      rotate_left
      · simp only [Act.put, List.setIfInBounds_toArray, List.set_cons_zero, List.set_cons_succ, i64_w, i32_w]
        rfl
      refine pure_ (i := 10) (N := some 37) (v := ?_) (a' := ?_) #[true, true, true, true, true, true, true, true, true, true, true, false] rfl rfl (by kernel_rfl) (fun _ _ _ h => h) (Or.inl ⟨by rfl, ?_⟩) ?_ ?_
      rotate_left
      · intro w'
        go_simp
        with_reducible rfl
      rotate_left
      · simp only [Act.put, List.setIfInBounds_toArray, List.set_cons_zero, List.set_cons_succ, i64_w, i32_w]
        rfl
      refine last_ (i := 11) (N := none) #[true, true, true, true, true, true, true, true, true, true, true, true] rfl rfl (by kernel_rfl) (by decide) (fun K hK => ?_)
      refine skip_ (w1 := ?_) (by rfl) rfl ?_ ?_
      rotate_left
      · go_simp
        rfl
      refine hK.out _ _ ?_
      clear hK K
      refine done_ (by kernel_rfl) ?_
      clear zc0 zf0
      have X9 := Aside0.mk (blk_put X8.out 0 (.slice A8_ (FL.length + 1) c8_) (cs' := #[.slice A8_ (FL.length + 1) c8_]) rfl)
      have O9 := Aside0.mk (Kd.R_kept O8.out ((Kept.refl w8 (fun k => k = g)).setCell (p := ⟨g, 0, none⟩) (.inl rfl) (.slice A8_ (FL.length + 1) c8_)) (fun k hk e => hk.2 e))
      have B9 := Aside0.mk (below_setB B8.out (p := ⟨g, 0, none⟩) GP.out.2 (.slice A8_ (FL.length + 1) c8_))
      have K9 := Aside0.mk (K8.out.setCell (p := ⟨g, 0, none⟩) (.inl HN.out.1.1) (.slice A8_ (FL.length + 1) c8_))
      clear X8 O8 B8 K8
      generalize (w8.setCell ⟨g, 0, none⟩ (.slice A8_ (FL.length + 1) c8_)) = w9 at X9 O9 B9 K9 ⊢
      go_wp2
      go_roundg (gk - 1)
      case measure => have := NK.out.2; omega
      case rel => exact ⟨i + 1, by (first | rw [b2] | rfl), ⟨NK.out.1⟩, ⟨by rw [HT2.out]; exact ⟨GP.out, ⟨A8_, c8_, by rw [HLEN.out]; exact X9.out, by rw [HLEN.out]; exact O9.out⟩, by rw [List.length_append]; exact HIL.out, fun p hp => by rcases List.mem_append.mp hp with h | h; (exact F4.out p h); (rw [List.mem_singleton.mp h]; exact FT.out)⟩⟩, ⟨B9.out, K9.out⟩⟩
    · have d1 : decide ((i : Int) < (m : Int)) = false := decide_eq_false (by omega)
      have d2 : decide (i < m) = false := decide_eq_false hi
      have d3 : (i < m) = False := eq_false hi
      have hie : i = m := Nat.le_antisymm HI.out.1 (Nat.not_lt.mp hi)
      have HW2 := Aside0.mk (show IsN N (fun k => P k ∨ w.heap.size ≤ k) wr g (fl ++ ps.take m) by rw [← hie]; exact HW.out)
      clear hi hie HI HW
      go_wp2_with fail
      go_ret
      exact ⟨rfl, HW2.out, HK.out.1, HK.out.2⟩
end Go.Proofs.Ythgdojaildccaaa.M
