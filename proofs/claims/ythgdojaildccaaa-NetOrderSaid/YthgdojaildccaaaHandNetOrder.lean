/-
  NetOrder, walked by hand: who always takes the first packet has them in the order in which they were sent; who takes all has none left.
-/
import Derived.Test.YthgdojaildccaaaONet8
import Derived.Test.YthgdojaildccaaaRowNetOrder
namespace Go.Proofs.Ythgdojaildccaaa.Pure
open Go.RowKit Go.Proofs.Ythgdojaildccaaa.M Go.Proofs.YthgdojaildccaaaW.PrintWords Go.Proofs.YthgdojaildccaaaW.PrintLast Go.Proofs.YthgdojaildccaaaW.PrintMore
set_option linter.unusedVariables false
set_option linter.unusedSimpArgs false
theorem cell_bel {w w' : World} {a : Addr} {v : Value} (h : w.cell? a = some v) (hb : Below w.heap.size w w') : w'.cell? a = some v :=
  (cell_of_heap (hb.block _ (World.block_lt_of_cell? _ _ h))).trans h
theorem fit_of {x : S37} (h : G37 x) : Fit x := by
  have h8 := h.2.2.2.2.2.2.2.2.2.2.2.2.1.1
  have h9 := h.2.2.2.2.2.2.2.2.2.2.2.2.2.1
  unfold Fit
  omega
theorem head_drop {l e : List S37} {i : Nat} (h : i < l.length) : rd_T37 (l.drop i ++ e) ((0 : Nat) : Int) = rd_T37 l (i : Int) := by
  have : (l.drop i ++ e)[0]? = l[i]? := by
    rw [List.getElem?_append_left (by rw [List.length_drop]; omega), List.getElem?_drop]; simp
  simp only [rd_T37, Int.toNat_natCast, List.getD_eq_getElem?_getD, this]
theorem erase_drop {l e : List S37} {i : Nat} (h : i < l.length) : (l.drop i ++ e).eraseIdx 0 = l.drop (i + 1) ++ e := by
  rw [List.drop_eq_getElem_cons h]; rfl
theorem erase_drop' {e : List S37} {i : Nat} (h : i < e.length) : (e.drop i).eraseIdx 0 = e.drop (i + 1) := by
  rw [List.drop_eq_getElem_cons h]; rfl
set_option maxHeartbeats 8000000 in
set_option maxRecDepth 100000 in
theorem NetOrder_hand (A0 : Option Addr) (c0 : Nat) (l0 : List S37) (A1 : Option Addr) (c1 : Nat) (l1 : List Int) (w : World) (hr : Kd.C k37 w A0 l0.length l0) (hc : l0.length ≤ c0) (hr1 : Kd.C (Kd.int .i64) w A1 l1.length l1) (hc1 : l1.length ≤ c1) (g0 : l0.length * 152 ≤ 140737488351232 ∧ ∀ x ∈ l0, G37 x) (g1 : l1.length * 8 ≤ 140737488351232 ∧ ∀ x ∈ l1, (Lit.int .i64 x).wf = true) :
    Calls Try.prog 6 #[.slice A0 l0.length c0, .slice A1 l1.length c1] w fun e w' => e = .returned (.bool true) ∧ Below w.heap.size w w' := by
  have HR := Aside0.mk hr; have HCAP := Aside0.mk hc; have HR1 := Aside0.mk hr1; have HF := Aside0.mk (show ∀ x ∈ l0, Fit x from fun x hx => fit_of (g0.2 x hx))
  clear hr hc hr1 hc1 g0 g1
  go_enter Try.func6, Try.ntmps6
  go_wp2_with fail
  refine (carries_calls w).mono ?_; rintro x w1 ⟨rfl, hb⟩; have B1 := Aside0.mk hb; clear hb
  by_cases hu : l0.length > 50
  · have d1 : decide (50 < (l0.length : Int)) = true := decide_eq_true (by omega)
    have d2 : decide (50 < l0.length) = true := decide_eq_true hu
    have d3 : (50 < l0.length) = True := eq_true hu
    clear hu
    go_wp2_with fail
    go_ret
    exact ⟨rfl, B1.out⟩
  have u1 : decide (50 < (l0.length : Int)) = false := decide_eq_false (by omega)
  have u2 : decide (50 < l0.length) = false := decide_eq_false hu
  have u3 : (50 < l0.length) = False := eq_false hu
  by_cases hv : l1.length > 50
  · have d1 : decide (50 < (l1.length : Int)) = true := decide_eq_true (by omega)
    have d2 : decide (50 < l1.length) = true := decide_eq_true hv
    have d3 : (50 < l1.length) = True := eq_true hv
    clear hv
    go_wp2_with fail
    go_ret
    exact ⟨rfl, B1.out⟩
  have v1 : decide (50 < (l1.length : Int)) = false := decide_eq_false (by omega)
  have v2 : decide (50 < l1.length) = false := decide_eq_false hv
  have v3 : (50 < l1.length) = False := eq_false hv
  have H50 := Aside0.mk (show l0.length ≤ 50 ∧ l1.length ≤ 50 by omega)
  clear hu hv
  go_wp2_with (first | ((with_reducible refine gate_dst (N := 5) rfl ?_); refine box_event ?hg (N := 5) ?hd (cs := #[.slice none 0 0]) (t := 26) ?hr ?_; (case hd => rfl); (case hg => rfl); (case hr => first | (go_simp; done) | (go_simp; rfl)); intro g5 hg w2 hbox hb; have B2 := Aside0.mk (below_step B1.out hb); have I2 := Aside0.mk (show IsN w.heap.size (fun k => w.heap.size ≤ k) w2 g5 [] from ⟨⟨by rw [hg]; exact B1.out.size, by rw [hg]; exact B1.out.size⟩, ⟨none, 0, hbox, Kd.R_nil _ _ _ _ _⟩, by simp, by simp⟩); clear hb hg hbox))
  refine (net_Sendn (ps := l0) rfl I2.out B2.out.size (fun w' hb hk => Kd.C_below HR.out (B2.out.trans hb)) HCAP.out HF.out).mono ?_
  rintro x w3 ⟨rfl, hI, hb, hk⟩
  have hs : sentN ([] : List S37).length l0.length = l0.length := by have := H50.out; unfold sentN; simp only [List.length_nil]; omega
  rw [hs, List.take_length, List.nil_append] at hI
  rw [hs]
  have I3 := Aside0.mk (mono_PW (w0 := w) hI (fun k hk => hk) B2.out.size); have B3 := Aside0.mk (B2.out.trans hb)
  clear hI hb hk hs u1 u2 u3 v1 v2 v3
  go_wp2_with fail
  go_loopg [6, 30] (l1.length + 1) (fun kq v6 v30 w' => ∃ (k : Nat) (ext : List S37), v6 = .int .i64 (ext.length : Int) ∧ v30 = .int .i64 (k : Int) ∧ Aside0 (k ≤ l1.length ∧ k + kq = l1.length + 1) ∧ Aside0 (ext.length ≤ k) ∧ Aside0 (IsN w.heap.size (fun k => w.heap.size ≤ k) w' g5 (l0 ++ ext)) ∧ Aside0 (Below w.heap.size w w'))
  case atStart => exact ⟨0, [], rfl, rfl, ⟨by omega, by omega⟩, ⟨Nat.le_refl _⟩, ⟨by rw [List.append_nil]; exact I3.out⟩, ⟨B3.out⟩⟩
  case round =>
    obtain ⟨k, ext, rfl, rfl, HK, HE, HW, BW⟩ := hrel
    by_cases hk : k < l1.length
    · have d1 : decide ((k : Int) < (l1.length : Int)) = true := decide_eq_true (by omega)
      have d2 : decide (k < l1.length) = true := decide_eq_true hk
      have d3 : (k < l1.length) = True := eq_true hk
      have hk0 : (0 : Int) ≤ (k : Int) := by omega
      have hk1 : (k : Int) < (l1.length : Int) := by omega
      obtain ⟨bd, e1, y0⟩ := Kd.at_int (Kd.C_below HR1.out BW.out) (k : Int) hk0 hk1
      subst e1
      rw [Int.toNat_natCast] at y0
      obtain ⟨n, hn⟩ : ∃ n, n = rd l1 (k : Int) := ⟨_, rfl⟩
      rw [← hn] at y0
      have b2 : wrap64 ((k : Int) + 1) = ((k + 1 : Nat) : Int) := by have := H50.out; unfold wrap64; omega
      have b3 : wrap64 ((ext.length : Int) + 1) = ((ext.length + 1 : Nat) : Int) := by have := H50.out; have := HE.out; unfold wrap64; omega
      have q1 := eq_true hk0; have q2 := eq_true hk1; have q3 : decide ((0 : Int) ≤ (k : Int)) = true := decide_eq_true hk0
      have NK := Aside0.mk (nk3_ hk HK.out.2)
      clear hn
      by_cases hin : 0 ≤ n ∧ n < ((l0 ++ ext).length : Int)
      · obtain ⟨j, rfl⟩ := Int.eq_ofNat_of_zero_le hin.1
        have HJ := Aside0.mk (show j < (l0 ++ ext).length by omega)
        have HLE := Aside0.mk (show (l0 ++ ext).length < 8192 by rw [List.length_append]; have := H50.out; have := HE.out; omega)
        clear hk hin
        go_wp2_with fail
        refine (net_Twice_ok HW.out HJ.out).mono ?_; rintro x w5 ⟨rfl, hI, hb, -⟩
        have e1 : twiceR (l0 ++ ext).length = 0 := by unfold twiceR; rw [if_pos HLE.out]
        have e2 : ∀ q, twiceF (l0 ++ ext) q = l0 ++ (ext ++ [q]) := fun q => by unfold twiceF; rw [if_pos HLE.out, List.append_assoc]
        rw [e1]
        rw [e2] at hI
        obtain ⟨q, hq⟩ : ∃ q, q = rd_T37 (l0 ++ ext) (j : Int) := ⟨_, rfl⟩
        rw [← hq] at hI
        have I5 := Aside0.mk (mono_PW (w0 := w) hI (fun k hk => hk) BW.out.size); have B5 := Aside0.mk (BW.out.trans hb)
        clear hI hb e1 e2 hq y0
        go_wp2_with fail
        go_roundg (gk - 1)
        case measure => have := NK.out.2; omega
        case rel => exact ⟨k + 1, ext ++ [q], by rw [List.length_append, List.length_singleton]; (first | rw [b3] | rfl), by (first | rw [b2] | rfl), ⟨NK.out.1⟩, ⟨by rw [List.length_append, List.length_singleton]; have := HE.out; omega⟩, I5, B5⟩
      · have HJ := Aside0.mk hin
        clear hk hin
        go_wp2_with fail
        refine (net_Twice_bad HW.out HJ.out).mono ?_; rintro x w5 ⟨rfl, hb⟩
        have I5 := Aside0.mk (HW.out.below hb); have B5 := Aside0.mk (below_step BW.out hb)
        clear hb y0
        go_wp2_with fail
        go_roundg (gk - 1)
        case measure => have := NK.out.2; omega
        case rel => exact ⟨k + 1, ext, rfl, by (first | rw [b2] | rfl), ⟨NK.out.1⟩, ⟨Nat.le_succ_of_le HE.out⟩, I5, B5⟩
    · have d1 : decide ((k : Int) < (l1.length : Int)) = false := decide_eq_false (by omega)
      have d2 : decide (k < l1.length) = false := decide_eq_false hk
      have d3 : (k < l1.length) = False := eq_false hk
      have HE2 := Aside0.mk (show ext.length ≤ 50 by have := HE.out; have := HK.out; have := H50.out; omega)
      have I6 := Aside0.mk HW.out; have B6 := Aside0.mk BW.out
      clear hk HK HE HW BW
      generalize wr = w6 at I6 B6 ⊢
      go_wp2_with fail
      clear d1 d2 d3
      go_loopg [42] (l0.length + 1) (fun kq v42 w' => ∃ (i : Nat), v42 = .int .i64 (i : Int) ∧ Aside0 (i ≤ l0.length ∧ i + kq = l0.length + 1) ∧ Aside0 (IsN w.heap.size (fun k => w.heap.size ≤ k) w' g5 (l0.drop i ++ ext)) ∧ Aside0 (Below w.heap.size w w'))
      case atStart => exact ⟨0, rfl, ⟨by omega, by omega⟩, ⟨I6.out⟩, ⟨B6.out⟩⟩
      case round =>
        obtain ⟨i, rfl, HI, HW, BW⟩ := hrel
        by_cases hi : i < l0.length
        · have d1 : decide ((i : Int) < (l0.length : Int)) = true := decide_eq_true (by omega)
          have d2 : decide (i < l0.length) = true := decide_eq_true hi
          have d3 : (i < l0.length) = True := eq_true hi
          have hi0 : (0 : Int) ≤ (i : Int) := by omega
          have hi1 : (i : Int) < (l0.length : Int) := by omega
          obtain ⟨ad, A13, c13, A14, c14, ea, x0, x1, x2, x3, x4, x5, x6, x7, x8, x9, x10, x11, x12, x13, x14, l13, g13, l14, g14⟩ := at_T37 HR.out (i : Int) hi0 hi1
          have hfit := HF.out _ (show rd_T37 l0 (i : Int) ∈ l0 by rw [show rd_T37 l0 (i : Int) = l0[i] by simp [rd_T37, hi]]; exact List.getElem_mem _)
          have hhd := head_drop (e := ext) hi
          have hed := erase_drop (e := ext) hi
          subst ea
          obtain ⟨q, hq⟩ : ∃ q, q = rd_T37 l0 (i : Int) := ⟨_, rfl⟩
          rw [← hq] at x0 x1 x2 x3 x4 x5 x6 x7 x8 x9 x10 x11 x12 x13 x14 l13 g13 l14 g14 hfit hhd
          rw [Int.toNat_natCast] at x0 x1 x2 x3 x4 x5 x6 x7 x8 x9 x10 x11 x12 x13 x14
          have EX := Aside0.mk (show _ from (⟨x0, x1, x2, x3, x4, x5, x6, x7, x8, x9, x10, x11, x12, x13, x14⟩ : (w.cell? (ad.add (i * 15)) = some (.int .i64 q.f0)) ∧ (w.cell? ⟨(ad.add (i * 15)).block, (ad.add (i * 15)).off + 1, none⟩ = some (.int .i64 q.f1)) ∧ (w.cell? ⟨(ad.add (i * 15)).block, (ad.add (i * 15)).off + 2, none⟩ = some (.int .i64 q.f2)) ∧ (w.cell? ⟨(ad.add (i * 15)).block, (ad.add (i * 15)).off + 3, none⟩ = some (.int .i64 q.f3)) ∧ (w.cell? ⟨(ad.add (i * 15)).block, (ad.add (i * 15)).off + 4, none⟩ = some (.int .i64 q.f4.f0)) ∧ (w.cell? ⟨(ad.add (i * 15)).block, (ad.add (i * 15)).off + 5, none⟩ = some (.int .i64 q.f4.f1.f0)) ∧ (w.cell? ⟨(ad.add (i * 15)).block, (ad.add (i * 15)).off + 6, none⟩ = some (.int .i64 q.f4.f1.f1)) ∧ (w.cell? ⟨(ad.add (i * 15)).block, (ad.add (i * 15)).off + 7, none⟩ = some (.int .i64 q.f4.f2)) ∧ (w.cell? ⟨(ad.add (i * 15)).block, (ad.add (i * 15)).off + 8, none⟩ = some (.int .i64 q.f4.f3)) ∧ (w.cell? ⟨(ad.add (i * 15)).block, (ad.add (i * 15)).off + 9, none⟩ = some (.int .i64 q.f4.f4)) ∧ (w.cell? ⟨(ad.add (i * 15)).block, (ad.add (i * 15)).off + 10, none⟩ = some (.int .i64 q.f4.f5)) ∧ (w.cell? ⟨(ad.add (i * 15)).block, (ad.add (i * 15)).off + 11, none⟩ = some (.int .i64 q.f4.f6)) ∧ (w.cell? ⟨(ad.add (i * 15)).block, (ad.add (i * 15)).off + 12, none⟩ = some (.bool q.f4.f7)) ∧ (w.cell? ⟨(ad.add (i * 15)).block, (ad.add (i * 15)).off + 13, none⟩ = some (.slice A13 q.f4.f8.length c13)) ∧ (w.cell? ⟨(ad.add (i * 15)).block, (ad.add (i * 15)).off + 14, none⟩ = some (.slice A14 q.f4.f9.length c14)))); have G13 := Aside0.mk g13; have G14 := Aside0.mk g14; have FT := Aside0.mk hfit; have HHD := Aside0.mk hhd; have HED := Aside0.mk hed
          have HLT := Aside0.mk (show 0 < (l0.drop i ++ ext).length by rw [List.length_append, List.length_drop]; omega)
          have b2 : wrap64 ((i : Int) + 1) = ((i + 1 : Nat) : Int) := by have := H50.out; unfold wrap64; omega
          have q1 := eq_true hi0; have q2 := eq_true hi1; have q3 : decide ((0 : Int) ≤ (i : Int)) = true := decide_eq_true hi0
          have NK := Aside0.mk (nk3_ hi HI.out.2)
          clear hi hq hfit hhd hed g13 g14 l13 l14 x0 x1 x2 x3 x4 x5 x6 x7 x8 x9 x10 x11 x12 x13 x14
          go_wp2_with fail
          refine (net_Take_ok (i := 0) HW.out HLT.out).mono ?_; rintro x w10 ⟨v, rfl, ⟨v8, v9, rfl, hO, hQ⟩, hI, hb, -⟩
          rw [HHD.out] at hO hQ ⊢
          rw [HED.out] at hI
          obtain ⟨A8, c8, e8, l8, hC8⟩ := Kd.R_reads hO; obtain ⟨A9, c9, e9, l9, hC9⟩ := Kd.R_reads hQ; subst e8 e9
          have B10 := Aside0.mk (BW.out.trans hb); have I10 := Aside0.mk hI; have O10 := Aside0.mk hC8; have Q10 := Aside0.mk hC9
          clear hO hQ hb hI l8 l9 hC8 hC9
          dsimp only [pkV]
          go_upto_region 18 with (first | ((with_reducible refine gate_dst (N := 10) rfl ?_); refine box_event ?hg (N := 10) ?hd (cs := #[.int .i64 0, .int .i64 0, .int .i64 0, .int .i64 0, .int .i64 0, .int .i64 0, .int .i64 0, .int .i64 0, .int .i64 0, .int .i64 0, .int .i64 0, .int .i64 0, .bool false, .slice none 0 0, .slice none 0 0]) (t := 37) ?hr ?_; (case hd => rfl); (case hg => rfl); (case hr => first | (go_simp; done) | (go_simp; rfl)); intro g10 hg w11m hbox hb; have ZB := Aside0.mk hb; have ZX := Aside0.mk hbox; have X11g := Aside0.mk (show w10.heap.size ≤ g10 from by rw [hg]; exact Nat.le_refl _); have x_zc0 : w11m.cell? ⟨g10, 0, none⟩ = some (.int .i64 0) := (blk_cell ZX.out 0).trans rfl; have x_zf0 := blk_frozen ZX.out 0; have x_zc1 : w11m.cell? ⟨g10, 1, none⟩ = some (.int .i64 0) := (blk_cell ZX.out 1).trans rfl; have x_zf1 := blk_frozen ZX.out 1; have x_zc2 : w11m.cell? ⟨g10, 2, none⟩ = some (.int .i64 0) := (blk_cell ZX.out 2).trans rfl; have x_zf2 := blk_frozen ZX.out 2; have x_zc3 : w11m.cell? ⟨g10, 3, none⟩ = some (.int .i64 0) := (blk_cell ZX.out 3).trans rfl; have x_zf3 := blk_frozen ZX.out 3; have x_zc4 : w11m.cell? ⟨g10, 4, none⟩ = some (.int .i64 0) := (blk_cell ZX.out 4).trans rfl; have x_zf4 := blk_frozen ZX.out 4; have x_zc5 : w11m.cell? ⟨g10, 5, none⟩ = some (.int .i64 0) := (blk_cell ZX.out 5).trans rfl; have x_zf5 := blk_frozen ZX.out 5; have x_zc6 : w11m.cell? ⟨g10, 6, none⟩ = some (.int .i64 0) := (blk_cell ZX.out 6).trans rfl; have x_zf6 := blk_frozen ZX.out 6; have x_zc7 : w11m.cell? ⟨g10, 7, none⟩ = some (.int .i64 0) := (blk_cell ZX.out 7).trans rfl; have x_zf7 := blk_frozen ZX.out 7; have x_zc8 : w11m.cell? ⟨g10, 8, none⟩ = some (.int .i64 0) := (blk_cell ZX.out 8).trans rfl; have x_zf8 := blk_frozen ZX.out 8; have x_zc9 : w11m.cell? ⟨g10, 9, none⟩ = some (.int .i64 0) := (blk_cell ZX.out 9).trans rfl; have x_zf9 := blk_frozen ZX.out 9; have x_zc10 : w11m.cell? ⟨g10, 10, none⟩ = some (.int .i64 0) := (blk_cell ZX.out 10).trans rfl; have x_zf10 := blk_frozen ZX.out 10; have x_zc11 : w11m.cell? ⟨g10, 11, none⟩ = some (.int .i64 0) := (blk_cell ZX.out 11).trans rfl; have x_zf11 := blk_frozen ZX.out 11; have x_zc12 : w11m.cell? ⟨g10, 12, none⟩ = some (.bool false) := (blk_cell ZX.out 12).trans rfl; have x_zf12 := blk_frozen ZX.out 12; have x_zc13 : w11m.cell? ⟨g10, 13, none⟩ = some (.slice none 0 0) := (blk_cell ZX.out 13).trans rfl; have x_zf13 := blk_frozen ZX.out 13; have x_zc14 : w11m.cell? ⟨g10, 14, none⟩ = some (.slice none 0 0) := (blk_cell ZX.out 14).trans rfl; have x_zf14 := blk_frozen ZX.out 14; clear hb hg hbox))
          have NB11 := Aside0.mk (below_setB (below_setB (below_setB (below_setB (below_setB (below_setB (below_setB (below_setB (below_setB (below_setB (below_setB (below_setB (below_setB (below_setB (below_setB ZB.out (p := ⟨g10, 0, none⟩) X11g.out (.int .i64 q.f0)) (p := ⟨g10, 1, none⟩) X11g.out (.int .i64 q.f1)) (p := ⟨g10, 2, none⟩) X11g.out (.int .i64 q.f2)) (p := ⟨g10, 3, none⟩) X11g.out (.int .i64 q.f3)) (p := ⟨g10, 4, none⟩) X11g.out (.int .i64 q.f4.f0)) (p := ⟨g10, 5, none⟩) X11g.out (.int .i64 q.f4.f1.f0)) (p := ⟨g10, 6, none⟩) X11g.out (.int .i64 q.f4.f1.f1)) (p := ⟨g10, 7, none⟩) X11g.out (.int .i64 q.f4.f2)) (p := ⟨g10, 8, none⟩) X11g.out (.int .i64 q.f4.f3)) (p := ⟨g10, 9, none⟩) X11g.out (.int .i64 q.f4.f4)) (p := ⟨g10, 10, none⟩) X11g.out (.int .i64 q.f4.f5)) (p := ⟨g10, 11, none⟩) X11g.out (.int .i64 q.f4.f6)) (p := ⟨g10, 12, none⟩) X11g.out (.bool q.f4.f7)) (p := ⟨g10, 13, none⟩) X11g.out (.slice A8 q.f4.f8.length c8)) (p := ⟨g10, 14, none⟩) X11g.out (.slice A9 q.f4.f9.length c9)); have X11 := Aside0.mk (blk_put (blk_put (blk_put (blk_put (blk_put (blk_put (blk_put (blk_put (blk_put (blk_put (blk_put (blk_put (blk_put (blk_put (blk_put ZX.out 0 (.int .i64 q.f0) (cs' := #[.int .i64 q.f0, .int .i64 0, .int .i64 0, .int .i64 0, .int .i64 0, .int .i64 0, .int .i64 0, .int .i64 0, .int .i64 0, .int .i64 0, .int .i64 0, .int .i64 0, .bool false, .slice none 0 0, .slice none 0 0]) rfl) 1 (.int .i64 q.f1) (cs' := #[.int .i64 q.f0, .int .i64 q.f1, .int .i64 0, .int .i64 0, .int .i64 0, .int .i64 0, .int .i64 0, .int .i64 0, .int .i64 0, .int .i64 0, .int .i64 0, .int .i64 0, .bool false, .slice none 0 0, .slice none 0 0]) rfl) 2 (.int .i64 q.f2) (cs' := #[.int .i64 q.f0, .int .i64 q.f1, .int .i64 q.f2, .int .i64 0, .int .i64 0, .int .i64 0, .int .i64 0, .int .i64 0, .int .i64 0, .int .i64 0, .int .i64 0, .int .i64 0, .bool false, .slice none 0 0, .slice none 0 0]) rfl) 3 (.int .i64 q.f3) (cs' := #[.int .i64 q.f0, .int .i64 q.f1, .int .i64 q.f2, .int .i64 q.f3, .int .i64 0, .int .i64 0, .int .i64 0, .int .i64 0, .int .i64 0, .int .i64 0, .int .i64 0, .int .i64 0, .bool false, .slice none 0 0, .slice none 0 0]) rfl) 4 (.int .i64 q.f4.f0) (cs' := #[.int .i64 q.f0, .int .i64 q.f1, .int .i64 q.f2, .int .i64 q.f3, .int .i64 q.f4.f0, .int .i64 0, .int .i64 0, .int .i64 0, .int .i64 0, .int .i64 0, .int .i64 0, .int .i64 0, .bool false, .slice none 0 0, .slice none 0 0]) rfl) 5 (.int .i64 q.f4.f1.f0) (cs' := #[.int .i64 q.f0, .int .i64 q.f1, .int .i64 q.f2, .int .i64 q.f3, .int .i64 q.f4.f0, .int .i64 q.f4.f1.f0, .int .i64 0, .int .i64 0, .int .i64 0, .int .i64 0, .int .i64 0, .int .i64 0, .bool false, .slice none 0 0, .slice none 0 0]) rfl) 6 (.int .i64 q.f4.f1.f1) (cs' := #[.int .i64 q.f0, .int .i64 q.f1, .int .i64 q.f2, .int .i64 q.f3, .int .i64 q.f4.f0, .int .i64 q.f4.f1.f0, .int .i64 q.f4.f1.f1, .int .i64 0, .int .i64 0, .int .i64 0, .int .i64 0, .int .i64 0, .bool false, .slice none 0 0, .slice none 0 0]) rfl) 7 (.int .i64 q.f4.f2) (cs' := #[.int .i64 q.f0, .int .i64 q.f1, .int .i64 q.f2, .int .i64 q.f3, .int .i64 q.f4.f0, .int .i64 q.f4.f1.f0, .int .i64 q.f4.f1.f1, .int .i64 q.f4.f2, .int .i64 0, .int .i64 0, .int .i64 0, .int .i64 0, .bool false, .slice none 0 0, .slice none 0 0]) rfl) 8 (.int .i64 q.f4.f3) (cs' := #[.int .i64 q.f0, .int .i64 q.f1, .int .i64 q.f2, .int .i64 q.f3, .int .i64 q.f4.f0, .int .i64 q.f4.f1.f0, .int .i64 q.f4.f1.f1, .int .i64 q.f4.f2, .int .i64 q.f4.f3, .int .i64 0, .int .i64 0, .int .i64 0, .bool false, .slice none 0 0, .slice none 0 0]) rfl) 9 (.int .i64 q.f4.f4) (cs' := #[.int .i64 q.f0, .int .i64 q.f1, .int .i64 q.f2, .int .i64 q.f3, .int .i64 q.f4.f0, .int .i64 q.f4.f1.f0, .int .i64 q.f4.f1.f1, .int .i64 q.f4.f2, .int .i64 q.f4.f3, .int .i64 q.f4.f4, .int .i64 0, .int .i64 0, .bool false, .slice none 0 0, .slice none 0 0]) rfl) 10 (.int .i64 q.f4.f5) (cs' := #[.int .i64 q.f0, .int .i64 q.f1, .int .i64 q.f2, .int .i64 q.f3, .int .i64 q.f4.f0, .int .i64 q.f4.f1.f0, .int .i64 q.f4.f1.f1, .int .i64 q.f4.f2, .int .i64 q.f4.f3, .int .i64 q.f4.f4, .int .i64 q.f4.f5, .int .i64 0, .bool false, .slice none 0 0, .slice none 0 0]) rfl) 11 (.int .i64 q.f4.f6) (cs' := #[.int .i64 q.f0, .int .i64 q.f1, .int .i64 q.f2, .int .i64 q.f3, .int .i64 q.f4.f0, .int .i64 q.f4.f1.f0, .int .i64 q.f4.f1.f1, .int .i64 q.f4.f2, .int .i64 q.f4.f3, .int .i64 q.f4.f4, .int .i64 q.f4.f5, .int .i64 q.f4.f6, .bool false, .slice none 0 0, .slice none 0 0]) rfl) 12 (.bool q.f4.f7) (cs' := #[.int .i64 q.f0, .int .i64 q.f1, .int .i64 q.f2, .int .i64 q.f3, .int .i64 q.f4.f0, .int .i64 q.f4.f1.f0, .int .i64 q.f4.f1.f1, .int .i64 q.f4.f2, .int .i64 q.f4.f3, .int .i64 q.f4.f4, .int .i64 q.f4.f5, .int .i64 q.f4.f6, .bool q.f4.f7, .slice none 0 0, .slice none 0 0]) rfl) 13 (.slice A8 q.f4.f8.length c8) (cs' := #[.int .i64 q.f0, .int .i64 q.f1, .int .i64 q.f2, .int .i64 q.f3, .int .i64 q.f4.f0, .int .i64 q.f4.f1.f0, .int .i64 q.f4.f1.f1, .int .i64 q.f4.f2, .int .i64 q.f4.f3, .int .i64 q.f4.f4, .int .i64 q.f4.f5, .int .i64 q.f4.f6, .bool q.f4.f7, .slice A8 q.f4.f8.length c8, .slice none 0 0]) rfl) 14 (.slice A9 q.f4.f9.length c9) (cs' := #[.int .i64 q.f0, .int .i64 q.f1, .int .i64 q.f2, .int .i64 q.f3, .int .i64 q.f4.f0, .int .i64 q.f4.f1.f0, .int .i64 q.f4.f1.f1, .int .i64 q.f4.f2, .int .i64 q.f4.f3, .int .i64 q.f4.f4, .int .i64 q.f4.f5, .int .i64 q.f4.f6, .bool q.f4.f7, .slice A8 q.f4.f8.length c8, .slice A9 q.f4.f9.length c9]) rfl); clear ZB ZX x_zc0 x_zf0 x_zc1 x_zf1 x_zc2 x_zf2 x_zc3 x_zf3 x_zc4 x_zf4 x_zc5 x_zf5 x_zc6 x_zf6 x_zc7 x_zf7 x_zc8 x_zf8 x_zc9 x_zf9 x_zc10 x_zf10 x_zc11 x_zf11 x_zc12 x_zf12 x_zc13 x_zf13 x_zc14 x_zf14; generalize (((((((((((((((w11m.setCell ⟨g10, 0, none⟩ (.int .i64 q.f0)).setCell ⟨g10, 1, none⟩ (.int .i64 q.f1)).setCell ⟨g10, 2, none⟩ (.int .i64 q.f2)).setCell ⟨g10, 3, none⟩ (.int .i64 q.f3)).setCell ⟨g10, 4, none⟩ (.int .i64 q.f4.f0)).setCell ⟨g10, 5, none⟩ (.int .i64 q.f4.f1.f0)).setCell ⟨g10, 6, none⟩ (.int .i64 q.f4.f1.f1)).setCell ⟨g10, 7, none⟩ (.int .i64 q.f4.f2)).setCell ⟨g10, 8, none⟩ (.int .i64 q.f4.f3)).setCell ⟨g10, 9, none⟩ (.int .i64 q.f4.f4)).setCell ⟨g10, 10, none⟩ (.int .i64 q.f4.f5)).setCell ⟨g10, 11, none⟩ (.int .i64 q.f4.f6)).setCell ⟨g10, 12, none⟩ (.bool q.f4.f7)).setCell ⟨g10, 13, none⟩ (.slice A8 q.f4.f8.length c8)).setCell ⟨g10, 14, none⟩ (.slice A9 q.f4.f9.length c9)) = w11 at NB11 X11 ⊢; have B11 := Aside0.mk (below_step B10.out NB11.out); have I11 := Aside0.mk (I10.out.below NB11.out); 
          refine start_ (n := 11) (S := fun w' => w'.cell? ⟨g10, 0, none⟩ = some (.int .i64 q.f0) ∧ w'.cell? ⟨g10, 1, none⟩ = some (.int .i64 q.f1) ∧ w'.cell? ⟨g10, 2, none⟩ = some (.int .i64 q.f2) ∧ w'.cell? ⟨g10, 3, none⟩ = some (.int .i64 q.f3) ∧ w'.cell? ⟨g10, 4, none⟩ = some (.int .i64 q.f4.f0) ∧ w'.cell? ⟨g10, 5, none⟩ = some (.int .i64 q.f4.f1.f0) ∧ w'.cell? ⟨g10, 6, none⟩ = some (.int .i64 q.f4.f1.f1) ∧ w'.cell? ⟨g10, 7, none⟩ = some (.int .i64 q.f4.f2) ∧ w'.cell? ⟨g10, 8, none⟩ = some (.int .i64 q.f4.f3) ∧ w'.cell? ⟨g10, 9, none⟩ = some (.int .i64 q.f4.f4) ∧ w'.cell? ⟨g10, 10, none⟩ = some (.int .i64 q.f4.f5) ∧ w'.cell? ⟨g10, 11, none⟩ = some (.int .i64 q.f4.f6) ∧ w'.cell? ⟨g10, 12, none⟩ = some (.bool q.f4.f7) ∧ w'.cell? ⟨g10, 13, none⟩ = some (.slice A8 q.f4.f8.length c8) ∧ w'.cell? ⟨g10, 14, none⟩ = some (.slice A9 q.f4.f9.length c9) ∧ w'.cell? (ad.add (i * 15)) = some (.int .i64 q.f0) ∧ w'.cell? ⟨(ad.add (i * 15)).block, (ad.add (i * 15)).off + 1, none⟩ = some (.int .i64 q.f1) ∧ w'.cell? ⟨(ad.add (i * 15)).block, (ad.add (i * 15)).off + 2, none⟩ = some (.int .i64 q.f2) ∧ w'.cell? ⟨(ad.add (i * 15)).block, (ad.add (i * 15)).off + 3, none⟩ = some (.int .i64 q.f3) ∧ w'.cell? ⟨(ad.add (i * 15)).block, (ad.add (i * 15)).off + 4, none⟩ = some (.int .i64 q.f4.f0) ∧ w'.cell? ⟨(ad.add (i * 15)).block, (ad.add (i * 15)).off + 5, none⟩ = some (.int .i64 q.f4.f1.f0) ∧ w'.cell? ⟨(ad.add (i * 15)).block, (ad.add (i * 15)).off + 6, none⟩ = some (.int .i64 q.f4.f1.f1) ∧ w'.cell? ⟨(ad.add (i * 15)).block, (ad.add (i * 15)).off + 7, none⟩ = some (.int .i64 q.f4.f2) ∧ w'.cell? ⟨(ad.add (i * 15)).block, (ad.add (i * 15)).off + 8, none⟩ = some (.int .i64 q.f4.f3) ∧ w'.cell? ⟨(ad.add (i * 15)).block, (ad.add (i * 15)).off + 9, none⟩ = some (.int .i64 q.f4.f4) ∧ w'.cell? ⟨(ad.add (i * 15)).block, (ad.add (i * 15)).off + 10, none⟩ = some (.int .i64 q.f4.f5) ∧ w'.cell? ⟨(ad.add (i * 15)).block, (ad.add (i * 15)).off + 11, none⟩ = some (.int .i64 q.f4.f6) ∧ w'.cell? ⟨(ad.add (i * 15)).block, (ad.add (i * 15)).off + 12, none⟩ = some (.bool q.f4.f7) ∧ w'.cell? ⟨(ad.add (i * 15)).block, (ad.add (i * 15)).off + 13, none⟩ = some (.slice A13 q.f4.f8.length c13) ∧ w'.cell? ⟨(ad.add (i * 15)).block, (ad.add (i * 15)).off + 14, none⟩ = some (.slice A14 q.f4.f9.length c14)) (ds := [8]) #[false, false, false, false, false, false, false, false, false, false, false] (by kernel_rfl) rfl rfl ⟨(blk_cell (blk_drew X11.out) 0).trans rfl, (blk_cell (blk_drew X11.out) 1).trans rfl, (blk_cell (blk_drew X11.out) 2).trans rfl, (blk_cell (blk_drew X11.out) 3).trans rfl, (blk_cell (blk_drew X11.out) 4).trans rfl, (blk_cell (blk_drew X11.out) 5).trans rfl, (blk_cell (blk_drew X11.out) 6).trans rfl, (blk_cell (blk_drew X11.out) 7).trans rfl, (blk_cell (blk_drew X11.out) 8).trans rfl, (blk_cell (blk_drew X11.out) 9).trans rfl, (blk_cell (blk_drew X11.out) 10).trans rfl, (blk_cell (blk_drew X11.out) 11).trans rfl, (blk_cell (blk_drew X11.out) 12).trans rfl, (blk_cell (blk_drew X11.out) 13).trans rfl, (blk_cell (blk_drew X11.out) 14).trans rfl, cell_bel (w := w) EX.out.1 (below_drew B11.out), cell_bel (w := w) EX.out.2.1 (below_drew B11.out), cell_bel (w := w) EX.out.2.2.1 (below_drew B11.out), cell_bel (w := w) EX.out.2.2.2.1 (below_drew B11.out), cell_bel (w := w) EX.out.2.2.2.2.1 (below_drew B11.out), cell_bel (w := w) EX.out.2.2.2.2.2.1 (below_drew B11.out), cell_bel (w := w) EX.out.2.2.2.2.2.2.1 (below_drew B11.out), cell_bel (w := w) EX.out.2.2.2.2.2.2.2.1 (below_drew B11.out), cell_bel (w := w) EX.out.2.2.2.2.2.2.2.2.1 (below_drew B11.out), cell_bel (w := w) EX.out.2.2.2.2.2.2.2.2.2.1 (below_drew B11.out), cell_bel (w := w) EX.out.2.2.2.2.2.2.2.2.2.2.1 (below_drew B11.out), cell_bel (w := w) EX.out.2.2.2.2.2.2.2.2.2.2.2.1 (below_drew B11.out), cell_bel (w := w) EX.out.2.2.2.2.2.2.2.2.2.2.2.2.1 (below_drew B11.out), cell_bel (w := w) EX.out.2.2.2.2.2.2.2.2.2.2.2.2.2.1 (below_drew B11.out), cell_bel (w := w) EX.out.2.2.2.2.2.2.2.2.2.2.2.2.2.2 (below_drew B11.out)⟩ (fun hHeld => ?_)
          refine pure_ (i := 0) (N := some 49) (v := ?_) (a' := ?_) #[true, false, false, false, false, false, false, false, false, false, false] rfl rfl (by kernel_rfl) (fun _ _ _ h => h) (Or.inl ⟨by rfl, ?_⟩) ?_ ?_
          rotate_left
          · intro w'
            go_simp
            with_reducible rfl
          rotate_left
          · simp only [Act.put, List.setIfInBounds_toArray, List.set_cons_zero, List.set_cons_succ, i64_w, i32_w]
            rfl
          refine pure_ (i := 1) (N := some 50) (v := ?_) (a' := ?_) #[true, true, false, false, false, false, false, false, false, false, false] rfl rfl (by kernel_rfl) (fun _ _ _ h => h) (Or.inl ⟨by rfl, ?_⟩) ?_ ?_
          rotate_left
          · intro w'
            go_simp
            with_reducible rfl
          rotate_left
          · simp only [Act.put, List.setIfInBounds_toArray, List.set_cons_zero, List.set_cons_succ, i64_w, i32_w]
            rfl
          refine pure_ (i := 2) (N := some 51) (v := ?_) (a' := ?_) #[true, true, true, false, false, false, false, false, false, false, false] rfl rfl (by kernel_rfl) (fun _ _ _ h => h) (Or.inl ⟨by rfl, ?_⟩) ?_ ?_
          rotate_left
          · intro w'
            go_simp
            with_reducible rfl
          rotate_left
          · simp only [Act.put, List.setIfInBounds_toArray, List.set_cons_zero, List.set_cons_succ, i64_w, i32_w]
            rfl
          refine pure_ (i := 4) (N := some 53) (v := ?_) (a' := ?_) #[true, true, true, false, true, false, false, false, false, false, false] rfl rfl (by kernel_rfl) (fun _ _ _ h => h) (Or.inl ⟨by rfl, ?_⟩) ?_ ?_
          rotate_left
          · intro w'
            go_simp
            with_reducible rfl
          rotate_left
          · simp only [Act.put, List.setIfInBounds_toArray, List.set_cons_zero, List.set_cons_succ, i64_w, i32_w]
            rfl
          refine pure_ (i := 5) (N := some 54) (v := ?_) (a' := ?_) #[true, true, true, false, true, true, false, false, false, false, false] rfl rfl (by kernel_rfl) (fun _ _ _ h => h) (Or.inl ⟨by rfl, ?_⟩) ?_ ?_
          rotate_left
          · intro w'
            go_simp
            with_reducible rfl
          rotate_left
          · simp only [Act.put, List.setIfInBounds_toArray, List.set_cons_zero, List.set_cons_succ, i64_w, i32_w]
            rfl
          refine pure_ (i := 6) (N := some 55) (v := ?_) (a' := ?_) #[true, true, true, false, true, true, true, false, false, false, false] rfl rfl (by kernel_rfl) (fun _ _ _ h => h) (Or.inl ⟨by rfl, ?_⟩) ?_ ?_
          rotate_left
          · intro w'
            go_simp
            with_reducible rfl
          rotate_left
          · simp only [Act.put, List.setIfInBounds_toArray, List.set_cons_zero, List.set_cons_succ, i64_w, i32_w]
            rfl
          refine take_ (i := 3) (N := some 52) (v := ?_) (a' := ?_) #[true, true, true, true, true, true, true, false, false, false, false] rfl rfl (by kernel_rfl) (fun _ _ _ h => h) (Or.inl ⟨by rfl, ?_⟩) hHeld ?_ ?_
          rotate_left
          · rintro w' ⟨s0, s1, s2, s3, s4, s5, s6, s7, s8, s9, s10, s11, s12, s13, s14, s15, s16, s17, s18, s19, s20, s21, s22, s23, s24, s25, s26, s27, s28, s29⟩
            go_simp
            with_reducible rfl
          rotate_left
          · simp only [Act.put, List.setIfInBounds_toArray, List.set_cons_zero, List.set_cons_succ, i64_w, i32_w]
            rfl
          refine take_ (i := 7) (N := some 56) (v := ?_) (a' := ?_) #[true, true, true, true, true, true, true, true, false, false, false] rfl rfl (by kernel_rfl) (fun _ _ _ h => h) (Or.inl ⟨by rfl, ?_⟩) hHeld ?_ ?_
          rotate_left
          · rintro w' ⟨s0, s1, s2, s3, s4, s5, s6, s7, s8, s9, s10, s11, s12, s13, s14, s15, s16, s17, s18, s19, s20, s21, s22, s23, s24, s25, s26, s27, s28, s29⟩
            go_simp
            with_reducible rfl
          rotate_left
          · simp only [Act.put, List.setIfInBounds_toArray, List.set_cons_zero, List.set_cons_succ, i64_w, i32_w]
            rfl
          refine last_ (i := 8) (N := some 57) #[true, true, true, true, true, true, true, true, true, false, false] rfl rfl (by kernel_rfl) (by decide) (fun K hK => ?_)
          refine goes_ Try.func14 (by kernel_rfl) rfl #[.agg #[.int .i64 q.f0, .int .i64 q.f1, .int .i64 q.f2, .int .i64 q.f3, .int .i64 q.f4.f0, .int .i64 q.f4.f1.f0, .int .i64 q.f4.f1.f1, .int .i64 q.f4.f2, .int .i64 q.f4.f3, .int .i64 q.f4.f4, .int .i64 q.f4.f5, .int .i64 q.f4.f6, .bool q.f4.f7, .slice A8 q.f4.f8.length c8, .slice A9 q.f4.f9.length c9], .agg #[.int .i64 q.f0, .int .i64 q.f1, .int .i64 q.f2, .int .i64 q.f3, .int .i64 q.f4.f0, .int .i64 q.f4.f1.f0, .int .i64 q.f4.f1.f1, .int .i64 q.f4.f2, .int .i64 q.f4.f3, .int .i64 q.f4.f4, .int .i64 q.f4.f5, .int .i64 q.f4.f6, .bool q.f4.f7, .slice A13 q.f4.f8.length c13, .slice A14 q.f4.f9.length c14]] (by rfl) rfl rfl (by simp only [List.map_toArray, List.map_cons, List.map_nil]; rfl) ?_
          with_reducible refine (psame_calls (p := q) (w := w11.drew) (Kd.C_below O10.out (below_step NB11.out (below_drew (Below.refl _ _)))) (Kd.C_below Q10.out (below_step NB11.out (below_drew (Below.refl _ _)))) (Kd.C_below G13.out (below_drew B11.out)) (Kd.C_below G14.out (below_drew B11.out)) FT.out).mono ?_
          rintro x w12 ⟨rfl, hb⟩
          refine ⟨_, rfl, ?_⟩
          have B12 := Aside0.mk (below_step (below_drew B11.out) hb)
          have I12 := Aside0.mk ((I11.out.below (below_drew (Below.refl _ _))).below hb)
          clear hb
          refine hK.out _ _ ?_
          clear hK K
          refine norm_ (a' := ?_) ?_ ?_
          rotate_left
          · show Act.put _ (some 57) _ = _
            simp only [Act.put, List.setIfInBounds_toArray, List.set_cons_zero, List.set_cons_succ, i64_w, i32_w]
            rfl
          refine pure_ (i := 9) (N := some 58) (v := ?_) (a' := ?_) #[true, true, true, true, true, true, true, true, true, true, false] rfl rfl (by kernel_rfl) (fun _ _ _ h => h) (Or.inl ⟨by rfl, ?_⟩) ?_ ?_
          rotate_left
          · intro w'
            go_simp
            with_reducible rfl
          rotate_left
          · simp only [Act.put, List.setIfInBounds_toArray, List.set_cons_zero, List.set_cons_succ, i64_w, i32_w]
            rfl
          refine pure_ (i := 10) (N := some 59) (v := ?_) (a' := ?_) #[true, true, true, true, true, true, true, true, true, true, true] rfl rfl (by kernel_rfl) (fun _ _ _ h => h) (Or.inl ⟨by rfl, ?_⟩) ?_ ?_
          rotate_left
          · intro w'
            go_simp
            with_reducible rfl
          rotate_left
          · simp only [Act.put, List.setIfInBounds_toArray, List.set_cons_zero, List.set_cons_succ, i64_w, i32_w]
            rfl
          refine done_ (by kernel_rfl) ?_
          go_wp2
          go_roundg (gk - 1)
          case measure => have := NK.out.2; omega
          case rel => exact ⟨i + 1, by (first | rw [b2] | rfl), ⟨NK.out.1⟩, I12, B12⟩
        · have d1 : decide ((i : Int) < (l0.length : Int)) = false := decide_eq_false (by omega)
          have d2 : decide (i < l0.length) = false := decide_eq_false hi
          have d3 : (i < l0.length) = False := eq_false hi
          have I7 := Aside0.mk (show IsN w.heap.size (fun k => w.heap.size ≤ k) wr g5 ext by have := HW.out; rwa [List.drop_eq_nil_of_le (Nat.not_lt.mp hi), List.nil_append] at this); have B7 := Aside0.mk BW.out
          clear hi HI HW BW
          generalize wr = w7 at I7 B7 ⊢
          go_wp2_with fail
          refine (net_Len I7.out).mono ?_; rintro x w8 ⟨rfl, hb⟩; have B8 := Aside0.mk (below_step B7.out hb); have I8 := Aside0.mk (I7.out.below hb); clear hb d1 d2 d3
          go_wp2_with fail
          go_loopg [65] (ext.length + 1) (fun kq v65 w' => ∃ (i : Nat), v65 = .int .i64 (i : Int) ∧ Aside0 (i ≤ ext.length ∧ i + kq = ext.length + 1) ∧ Aside0 (IsN w.heap.size (fun k => w.heap.size ≤ k) w' g5 (ext.drop i)) ∧ Aside0 (Below w.heap.size w w'))
          case atStart => exact ⟨0, rfl, ⟨by omega, by omega⟩, ⟨by rw [List.drop_zero]; exact I8.out⟩, ⟨B8.out⟩⟩
          case round =>
            obtain ⟨i, rfl, HI, HW, BW⟩ := hrel
            by_cases hi : i < ext.length
            · have d1 : decide ((i : Int) < (ext.length : Int)) = true := decide_eq_true (by omega)
              have d2 : decide (i < ext.length) = true := decide_eq_true hi
              have d3 : (i < ext.length) = True := eq_true hi
              have HED := Aside0.mk (erase_drop' hi)
              have HLT := Aside0.mk (show 0 < (ext.drop i).length by rw [List.length_drop]; omega)
              have b2 : wrap64 ((i : Int) + 1) = ((i + 1 : Nat) : Int) := by have := HE2.out; unfold wrap64; omega
              have NK := Aside0.mk (nk3_ hi HI.out.2)
              obtain ⟨r, hr⟩ : ∃ r, r = rd_T37 (ext.drop i) ((0 : Nat) : Int) := ⟨_, rfl⟩
              have HRR := Aside0.mk hr
              clear hi hr
              go_wp2_with fail
              refine (net_Take_ok (i := 0) HW.out HLT.out).mono ?_; rintro x w10 ⟨v, rfl, ⟨v8, v9, rfl, hO, hQ⟩, hI, hb, -⟩
              rw [← HRR.out] at hO hQ ⊢
              rw [HED.out] at hI
              obtain ⟨A8, c8, e8, l8, hC8⟩ := Kd.R_reads hO; obtain ⟨A9, c9, e9, l9, hC9⟩ := Kd.R_reads hQ; subst e8 e9
              have B10 := Aside0.mk (BW.out.trans hb); have I10 := Aside0.mk hI
              clear hO hQ hb hI l8 l9 hC8 hC9
              dsimp only [pkV]
              go_wp2_with (first | ((with_reducible refine gate_dst (N := 12) rfl ?_); refine box_event ?hg (N := 12) ?hd (cs := #[.int .i64 0, .int .i64 0, .int .i64 0, .int .i64 0, .int .i64 0, .int .i64 0, .int .i64 0, .int .i64 0, .int .i64 0, .int .i64 0, .int .i64 0, .int .i64 0, .bool false, .slice none 0 0, .slice none 0 0]) (t := 37) ?hr ?_; (case hd => rfl); (case hg => rfl); (case hr => first | (go_simp; done) | (go_simp; rfl)); intro g12 hg w11m hbox hb; have ZB := Aside0.mk hb; have ZX := Aside0.mk hbox; have X11g := Aside0.mk (show w10.heap.size ≤ g12 from by rw [hg]; exact Nat.le_refl _); have x_zc0 : w11m.cell? ⟨g12, 0, none⟩ = some (.int .i64 0) := (blk_cell ZX.out 0).trans rfl; have x_zf0 := blk_frozen ZX.out 0; have x_zc1 : w11m.cell? ⟨g12, 1, none⟩ = some (.int .i64 0) := (blk_cell ZX.out 1).trans rfl; have x_zf1 := blk_frozen ZX.out 1; have x_zc2 : w11m.cell? ⟨g12, 2, none⟩ = some (.int .i64 0) := (blk_cell ZX.out 2).trans rfl; have x_zf2 := blk_frozen ZX.out 2; have x_zc3 : w11m.cell? ⟨g12, 3, none⟩ = some (.int .i64 0) := (blk_cell ZX.out 3).trans rfl; have x_zf3 := blk_frozen ZX.out 3; have x_zc4 : w11m.cell? ⟨g12, 4, none⟩ = some (.int .i64 0) := (blk_cell ZX.out 4).trans rfl; have x_zf4 := blk_frozen ZX.out 4; have x_zc5 : w11m.cell? ⟨g12, 5, none⟩ = some (.int .i64 0) := (blk_cell ZX.out 5).trans rfl; have x_zf5 := blk_frozen ZX.out 5; have x_zc6 : w11m.cell? ⟨g12, 6, none⟩ = some (.int .i64 0) := (blk_cell ZX.out 6).trans rfl; have x_zf6 := blk_frozen ZX.out 6; have x_zc7 : w11m.cell? ⟨g12, 7, none⟩ = some (.int .i64 0) := (blk_cell ZX.out 7).trans rfl; have x_zf7 := blk_frozen ZX.out 7; have x_zc8 : w11m.cell? ⟨g12, 8, none⟩ = some (.int .i64 0) := (blk_cell ZX.out 8).trans rfl; have x_zf8 := blk_frozen ZX.out 8; have x_zc9 : w11m.cell? ⟨g12, 9, none⟩ = some (.int .i64 0) := (blk_cell ZX.out 9).trans rfl; have x_zf9 := blk_frozen ZX.out 9; have x_zc10 : w11m.cell? ⟨g12, 10, none⟩ = some (.int .i64 0) := (blk_cell ZX.out 10).trans rfl; have x_zf10 := blk_frozen ZX.out 10; have x_zc11 : w11m.cell? ⟨g12, 11, none⟩ = some (.int .i64 0) := (blk_cell ZX.out 11).trans rfl; have x_zf11 := blk_frozen ZX.out 11; have x_zc12 : w11m.cell? ⟨g12, 12, none⟩ = some (.bool false) := (blk_cell ZX.out 12).trans rfl; have x_zf12 := blk_frozen ZX.out 12; have x_zc13 : w11m.cell? ⟨g12, 13, none⟩ = some (.slice none 0 0) := (blk_cell ZX.out 13).trans rfl; have x_zf13 := blk_frozen ZX.out 13; have x_zc14 : w11m.cell? ⟨g12, 14, none⟩ = some (.slice none 0 0) := (blk_cell ZX.out 14).trans rfl; have x_zf14 := blk_frozen ZX.out 14; clear hb hg hbox) | ((with_reducible refine gate_dst (N := 72) rfl ?_); have NB11 := Aside0.mk (below_setB (below_setB (below_setB (below_setB (below_setB (below_setB (below_setB (below_setB (below_setB (below_setB (below_setB (below_setB (below_setB (below_setB (below_setB ZB.out (p := ⟨g12, 0, none⟩) X11g.out (.int .i64 r.f0)) (p := ⟨g12, 1, none⟩) X11g.out (.int .i64 r.f1)) (p := ⟨g12, 2, none⟩) X11g.out (.int .i64 r.f2)) (p := ⟨g12, 3, none⟩) X11g.out (.int .i64 r.f3)) (p := ⟨g12, 4, none⟩) X11g.out (.int .i64 r.f4.f0)) (p := ⟨g12, 5, none⟩) X11g.out (.int .i64 r.f4.f1.f0)) (p := ⟨g12, 6, none⟩) X11g.out (.int .i64 r.f4.f1.f1)) (p := ⟨g12, 7, none⟩) X11g.out (.int .i64 r.f4.f2)) (p := ⟨g12, 8, none⟩) X11g.out (.int .i64 r.f4.f3)) (p := ⟨g12, 9, none⟩) X11g.out (.int .i64 r.f4.f4)) (p := ⟨g12, 10, none⟩) X11g.out (.int .i64 r.f4.f5)) (p := ⟨g12, 11, none⟩) X11g.out (.int .i64 r.f4.f6)) (p := ⟨g12, 12, none⟩) X11g.out (.bool r.f4.f7)) (p := ⟨g12, 13, none⟩) X11g.out (.slice A8 r.f4.f8.length c8)) (p := ⟨g12, 14, none⟩) X11g.out (.slice A9 r.f4.f9.length c9)); have X11 := Aside0.mk (blk_put (blk_put (blk_put (blk_put (blk_put (blk_put (blk_put (blk_put (blk_put (blk_put (blk_put (blk_put (blk_put (blk_put (blk_put ZX.out 0 (.int .i64 r.f0) (cs' := #[.int .i64 r.f0, .int .i64 0, .int .i64 0, .int .i64 0, .int .i64 0, .int .i64 0, .int .i64 0, .int .i64 0, .int .i64 0, .int .i64 0, .int .i64 0, .int .i64 0, .bool false, .slice none 0 0, .slice none 0 0]) rfl) 1 (.int .i64 r.f1) (cs' := #[.int .i64 r.f0, .int .i64 r.f1, .int .i64 0, .int .i64 0, .int .i64 0, .int .i64 0, .int .i64 0, .int .i64 0, .int .i64 0, .int .i64 0, .int .i64 0, .int .i64 0, .bool false, .slice none 0 0, .slice none 0 0]) rfl) 2 (.int .i64 r.f2) (cs' := #[.int .i64 r.f0, .int .i64 r.f1, .int .i64 r.f2, .int .i64 0, .int .i64 0, .int .i64 0, .int .i64 0, .int .i64 0, .int .i64 0, .int .i64 0, .int .i64 0, .int .i64 0, .bool false, .slice none 0 0, .slice none 0 0]) rfl) 3 (.int .i64 r.f3) (cs' := #[.int .i64 r.f0, .int .i64 r.f1, .int .i64 r.f2, .int .i64 r.f3, .int .i64 0, .int .i64 0, .int .i64 0, .int .i64 0, .int .i64 0, .int .i64 0, .int .i64 0, .int .i64 0, .bool false, .slice none 0 0, .slice none 0 0]) rfl) 4 (.int .i64 r.f4.f0) (cs' := #[.int .i64 r.f0, .int .i64 r.f1, .int .i64 r.f2, .int .i64 r.f3, .int .i64 r.f4.f0, .int .i64 0, .int .i64 0, .int .i64 0, .int .i64 0, .int .i64 0, .int .i64 0, .int .i64 0, .bool false, .slice none 0 0, .slice none 0 0]) rfl) 5 (.int .i64 r.f4.f1.f0) (cs' := #[.int .i64 r.f0, .int .i64 r.f1, .int .i64 r.f2, .int .i64 r.f3, .int .i64 r.f4.f0, .int .i64 r.f4.f1.f0, .int .i64 0, .int .i64 0, .int .i64 0, .int .i64 0, .int .i64 0, .int .i64 0, .bool false, .slice none 0 0, .slice none 0 0]) rfl) 6 (.int .i64 r.f4.f1.f1) (cs' := #[.int .i64 r.f0, .int .i64 r.f1, .int .i64 r.f2, .int .i64 r.f3, .int .i64 r.f4.f0, .int .i64 r.f4.f1.f0, .int .i64 r.f4.f1.f1, .int .i64 0, .int .i64 0, .int .i64 0, .int .i64 0, .int .i64 0, .bool false, .slice none 0 0, .slice none 0 0]) rfl) 7 (.int .i64 r.f4.f2) (cs' := #[.int .i64 r.f0, .int .i64 r.f1, .int .i64 r.f2, .int .i64 r.f3, .int .i64 r.f4.f0, .int .i64 r.f4.f1.f0, .int .i64 r.f4.f1.f1, .int .i64 r.f4.f2, .int .i64 0, .int .i64 0, .int .i64 0, .int .i64 0, .bool false, .slice none 0 0, .slice none 0 0]) rfl) 8 (.int .i64 r.f4.f3) (cs' := #[.int .i64 r.f0, .int .i64 r.f1, .int .i64 r.f2, .int .i64 r.f3, .int .i64 r.f4.f0, .int .i64 r.f4.f1.f0, .int .i64 r.f4.f1.f1, .int .i64 r.f4.f2, .int .i64 r.f4.f3, .int .i64 0, .int .i64 0, .int .i64 0, .bool false, .slice none 0 0, .slice none 0 0]) rfl) 9 (.int .i64 r.f4.f4) (cs' := #[.int .i64 r.f0, .int .i64 r.f1, .int .i64 r.f2, .int .i64 r.f3, .int .i64 r.f4.f0, .int .i64 r.f4.f1.f0, .int .i64 r.f4.f1.f1, .int .i64 r.f4.f2, .int .i64 r.f4.f3, .int .i64 r.f4.f4, .int .i64 0, .int .i64 0, .bool false, .slice none 0 0, .slice none 0 0]) rfl) 10 (.int .i64 r.f4.f5) (cs' := #[.int .i64 r.f0, .int .i64 r.f1, .int .i64 r.f2, .int .i64 r.f3, .int .i64 r.f4.f0, .int .i64 r.f4.f1.f0, .int .i64 r.f4.f1.f1, .int .i64 r.f4.f2, .int .i64 r.f4.f3, .int .i64 r.f4.f4, .int .i64 r.f4.f5, .int .i64 0, .bool false, .slice none 0 0, .slice none 0 0]) rfl) 11 (.int .i64 r.f4.f6) (cs' := #[.int .i64 r.f0, .int .i64 r.f1, .int .i64 r.f2, .int .i64 r.f3, .int .i64 r.f4.f0, .int .i64 r.f4.f1.f0, .int .i64 r.f4.f1.f1, .int .i64 r.f4.f2, .int .i64 r.f4.f3, .int .i64 r.f4.f4, .int .i64 r.f4.f5, .int .i64 r.f4.f6, .bool false, .slice none 0 0, .slice none 0 0]) rfl) 12 (.bool r.f4.f7) (cs' := #[.int .i64 r.f0, .int .i64 r.f1, .int .i64 r.f2, .int .i64 r.f3, .int .i64 r.f4.f0, .int .i64 r.f4.f1.f0, .int .i64 r.f4.f1.f1, .int .i64 r.f4.f2, .int .i64 r.f4.f3, .int .i64 r.f4.f4, .int .i64 r.f4.f5, .int .i64 r.f4.f6, .bool r.f4.f7, .slice none 0 0, .slice none 0 0]) rfl) 13 (.slice A8 r.f4.f8.length c8) (cs' := #[.int .i64 r.f0, .int .i64 r.f1, .int .i64 r.f2, .int .i64 r.f3, .int .i64 r.f4.f0, .int .i64 r.f4.f1.f0, .int .i64 r.f4.f1.f1, .int .i64 r.f4.f2, .int .i64 r.f4.f3, .int .i64 r.f4.f4, .int .i64 r.f4.f5, .int .i64 r.f4.f6, .bool r.f4.f7, .slice A8 r.f4.f8.length c8, .slice none 0 0]) rfl) 14 (.slice A9 r.f4.f9.length c9) (cs' := #[.int .i64 r.f0, .int .i64 r.f1, .int .i64 r.f2, .int .i64 r.f3, .int .i64 r.f4.f0, .int .i64 r.f4.f1.f0, .int .i64 r.f4.f1.f1, .int .i64 r.f4.f2, .int .i64 r.f4.f3, .int .i64 r.f4.f4, .int .i64 r.f4.f5, .int .i64 r.f4.f6, .bool r.f4.f7, .slice A8 r.f4.f8.length c8, .slice A9 r.f4.f9.length c9]) rfl); clear ZB ZX x_zc0 x_zf0 x_zc1 x_zf1 x_zc2 x_zf2 x_zc3 x_zf3 x_zc4 x_zf4 x_zc5 x_zf5 x_zc6 x_zf6 x_zc7 x_zf7 x_zc8 x_zf8 x_zc9 x_zf9 x_zc10 x_zf10 x_zc11 x_zf11 x_zc12 x_zf12 x_zc13 x_zf13 x_zc14 x_zf14; generalize (((((((((((((((w11m.setCell ⟨g12, 0, none⟩ (.int .i64 r.f0)).setCell ⟨g12, 1, none⟩ (.int .i64 r.f1)).setCell ⟨g12, 2, none⟩ (.int .i64 r.f2)).setCell ⟨g12, 3, none⟩ (.int .i64 r.f3)).setCell ⟨g12, 4, none⟩ (.int .i64 r.f4.f0)).setCell ⟨g12, 5, none⟩ (.int .i64 r.f4.f1.f0)).setCell ⟨g12, 6, none⟩ (.int .i64 r.f4.f1.f1)).setCell ⟨g12, 7, none⟩ (.int .i64 r.f4.f2)).setCell ⟨g12, 8, none⟩ (.int .i64 r.f4.f3)).setCell ⟨g12, 9, none⟩ (.int .i64 r.f4.f4)).setCell ⟨g12, 10, none⟩ (.int .i64 r.f4.f5)).setCell ⟨g12, 11, none⟩ (.int .i64 r.f4.f6)).setCell ⟨g12, 12, none⟩ (.bool r.f4.f7)).setCell ⟨g12, 13, none⟩ (.slice A8 r.f4.f8.length c8)).setCell ⟨g12, 14, none⟩ (.slice A9 r.f4.f9.length c9)) = w11 at NB11 X11 ⊢; have B11 := Aside0.mk (below_step B10.out NB11.out); have I11 := Aside0.mk (I10.out.below NB11.out); ))
              go_roundg (gk - 1)
              case measure => have := NK.out.2; omega
              case rel => exact ⟨i + 1, by (first | rw [b2] | rfl), ⟨NK.out.1⟩, I11, B11⟩
            · have d1 : decide ((i : Int) < (ext.length : Int)) = false := decide_eq_false (by omega)
              have d2 : decide (i < ext.length) = false := decide_eq_false hi
              have d3 : (i < ext.length) = False := eq_false hi
              have I9 := Aside0.mk (show IsN w.heap.size (fun k => w.heap.size ≤ k) wr g5 [] by have := HW.out; rwa [List.drop_eq_nil_of_le (Nat.not_lt.mp hi)] at this); have B9 := Aside0.mk BW.out
              clear hi HI HW BW
              generalize wr = w9 at I9 B9 ⊢
              go_wp2_with fail
              refine (net_Take_bad (i := 0) I9.out (by simp)).mono ?_; rintro x w10 ⟨rfl, hb⟩
              have B10 := Aside0.mk (below_step B9.out hb); have I10 := Aside0.mk (I9.out.below hb); clear hb
              dsimp only [pkV, z37, z35, z31, List.length_nil]
              go_wp2_with (first | ((with_reducible refine gate_dst (N := 14) rfl ?_); refine box_event ?hg (N := 14) ?hd (cs := #[.int .i64 0, .int .i64 0, .int .i64 0, .int .i64 0, .int .i64 0, .int .i64 0, .int .i64 0, .int .i64 0, .int .i64 0, .int .i64 0, .int .i64 0, .int .i64 0, .bool false, .slice none 0 0, .slice none 0 0]) (t := 37) ?hr ?_; (case hd => rfl); (case hg => rfl); (case hr => first | (go_simp; done) | (go_simp; rfl)); intro g14 hg w11m hbox hb; have ZB := Aside0.mk hb; have ZX := Aside0.mk hbox; have X11g := Aside0.mk (show w10.heap.size ≤ g14 from by rw [hg]; exact Nat.le_refl _); have x_zc0 : w11m.cell? ⟨g14, 0, none⟩ = some (.int .i64 0) := (blk_cell ZX.out 0).trans rfl; have x_zf0 := blk_frozen ZX.out 0; have x_zc1 : w11m.cell? ⟨g14, 1, none⟩ = some (.int .i64 0) := (blk_cell ZX.out 1).trans rfl; have x_zf1 := blk_frozen ZX.out 1; have x_zc2 : w11m.cell? ⟨g14, 2, none⟩ = some (.int .i64 0) := (blk_cell ZX.out 2).trans rfl; have x_zf2 := blk_frozen ZX.out 2; have x_zc3 : w11m.cell? ⟨g14, 3, none⟩ = some (.int .i64 0) := (blk_cell ZX.out 3).trans rfl; have x_zf3 := blk_frozen ZX.out 3; have x_zc4 : w11m.cell? ⟨g14, 4, none⟩ = some (.int .i64 0) := (blk_cell ZX.out 4).trans rfl; have x_zf4 := blk_frozen ZX.out 4; have x_zc5 : w11m.cell? ⟨g14, 5, none⟩ = some (.int .i64 0) := (blk_cell ZX.out 5).trans rfl; have x_zf5 := blk_frozen ZX.out 5; have x_zc6 : w11m.cell? ⟨g14, 6, none⟩ = some (.int .i64 0) := (blk_cell ZX.out 6).trans rfl; have x_zf6 := blk_frozen ZX.out 6; have x_zc7 : w11m.cell? ⟨g14, 7, none⟩ = some (.int .i64 0) := (blk_cell ZX.out 7).trans rfl; have x_zf7 := blk_frozen ZX.out 7; have x_zc8 : w11m.cell? ⟨g14, 8, none⟩ = some (.int .i64 0) := (blk_cell ZX.out 8).trans rfl; have x_zf8 := blk_frozen ZX.out 8; have x_zc9 : w11m.cell? ⟨g14, 9, none⟩ = some (.int .i64 0) := (blk_cell ZX.out 9).trans rfl; have x_zf9 := blk_frozen ZX.out 9; have x_zc10 : w11m.cell? ⟨g14, 10, none⟩ = some (.int .i64 0) := (blk_cell ZX.out 10).trans rfl; have x_zf10 := blk_frozen ZX.out 10; have x_zc11 : w11m.cell? ⟨g14, 11, none⟩ = some (.int .i64 0) := (blk_cell ZX.out 11).trans rfl; have x_zf11 := blk_frozen ZX.out 11; have x_zc12 : w11m.cell? ⟨g14, 12, none⟩ = some (.bool false) := (blk_cell ZX.out 12).trans rfl; have x_zf12 := blk_frozen ZX.out 12; have x_zc13 : w11m.cell? ⟨g14, 13, none⟩ = some (.slice none 0 0) := (blk_cell ZX.out 13).trans rfl; have x_zf13 := blk_frozen ZX.out 13; have x_zc14 : w11m.cell? ⟨g14, 14, none⟩ = some (.slice none 0 0) := (blk_cell ZX.out 14).trans rfl; have x_zf14 := blk_frozen ZX.out 14; clear hb hg hbox) | ((with_reducible refine gate_dst (N := 79) rfl ?_); have NB11 := Aside0.mk (below_setB (below_setB (below_setB (below_setB (below_setB (below_setB (below_setB (below_setB (below_setB (below_setB (below_setB (below_setB (below_setB (below_setB (below_setB ZB.out (p := ⟨g14, 0, none⟩) X11g.out (.int .i64 0)) (p := ⟨g14, 1, none⟩) X11g.out (.int .i64 0)) (p := ⟨g14, 2, none⟩) X11g.out (.int .i64 0)) (p := ⟨g14, 3, none⟩) X11g.out (.int .i64 0)) (p := ⟨g14, 4, none⟩) X11g.out (.int .i64 0)) (p := ⟨g14, 5, none⟩) X11g.out (.int .i64 0)) (p := ⟨g14, 6, none⟩) X11g.out (.int .i64 0)) (p := ⟨g14, 7, none⟩) X11g.out (.int .i64 0)) (p := ⟨g14, 8, none⟩) X11g.out (.int .i64 0)) (p := ⟨g14, 9, none⟩) X11g.out (.int .i64 0)) (p := ⟨g14, 10, none⟩) X11g.out (.int .i64 0)) (p := ⟨g14, 11, none⟩) X11g.out (.int .i64 0)) (p := ⟨g14, 12, none⟩) X11g.out (.bool false)) (p := ⟨g14, 13, none⟩) X11g.out (.slice none 0 0)) (p := ⟨g14, 14, none⟩) X11g.out (.slice none 0 0)); have X11 := Aside0.mk (blk_put (blk_put (blk_put (blk_put (blk_put (blk_put (blk_put (blk_put (blk_put (blk_put (blk_put (blk_put (blk_put (blk_put (blk_put ZX.out 0 (.int .i64 0) (cs' := #[.int .i64 0, .int .i64 0, .int .i64 0, .int .i64 0, .int .i64 0, .int .i64 0, .int .i64 0, .int .i64 0, .int .i64 0, .int .i64 0, .int .i64 0, .int .i64 0, .bool false, .slice none 0 0, .slice none 0 0]) rfl) 1 (.int .i64 0) (cs' := #[.int .i64 0, .int .i64 0, .int .i64 0, .int .i64 0, .int .i64 0, .int .i64 0, .int .i64 0, .int .i64 0, .int .i64 0, .int .i64 0, .int .i64 0, .int .i64 0, .bool false, .slice none 0 0, .slice none 0 0]) rfl) 2 (.int .i64 0) (cs' := #[.int .i64 0, .int .i64 0, .int .i64 0, .int .i64 0, .int .i64 0, .int .i64 0, .int .i64 0, .int .i64 0, .int .i64 0, .int .i64 0, .int .i64 0, .int .i64 0, .bool false, .slice none 0 0, .slice none 0 0]) rfl) 3 (.int .i64 0) (cs' := #[.int .i64 0, .int .i64 0, .int .i64 0, .int .i64 0, .int .i64 0, .int .i64 0, .int .i64 0, .int .i64 0, .int .i64 0, .int .i64 0, .int .i64 0, .int .i64 0, .bool false, .slice none 0 0, .slice none 0 0]) rfl) 4 (.int .i64 0) (cs' := #[.int .i64 0, .int .i64 0, .int .i64 0, .int .i64 0, .int .i64 0, .int .i64 0, .int .i64 0, .int .i64 0, .int .i64 0, .int .i64 0, .int .i64 0, .int .i64 0, .bool false, .slice none 0 0, .slice none 0 0]) rfl) 5 (.int .i64 0) (cs' := #[.int .i64 0, .int .i64 0, .int .i64 0, .int .i64 0, .int .i64 0, .int .i64 0, .int .i64 0, .int .i64 0, .int .i64 0, .int .i64 0, .int .i64 0, .int .i64 0, .bool false, .slice none 0 0, .slice none 0 0]) rfl) 6 (.int .i64 0) (cs' := #[.int .i64 0, .int .i64 0, .int .i64 0, .int .i64 0, .int .i64 0, .int .i64 0, .int .i64 0, .int .i64 0, .int .i64 0, .int .i64 0, .int .i64 0, .int .i64 0, .bool false, .slice none 0 0, .slice none 0 0]) rfl) 7 (.int .i64 0) (cs' := #[.int .i64 0, .int .i64 0, .int .i64 0, .int .i64 0, .int .i64 0, .int .i64 0, .int .i64 0, .int .i64 0, .int .i64 0, .int .i64 0, .int .i64 0, .int .i64 0, .bool false, .slice none 0 0, .slice none 0 0]) rfl) 8 (.int .i64 0) (cs' := #[.int .i64 0, .int .i64 0, .int .i64 0, .int .i64 0, .int .i64 0, .int .i64 0, .int .i64 0, .int .i64 0, .int .i64 0, .int .i64 0, .int .i64 0, .int .i64 0, .bool false, .slice none 0 0, .slice none 0 0]) rfl) 9 (.int .i64 0) (cs' := #[.int .i64 0, .int .i64 0, .int .i64 0, .int .i64 0, .int .i64 0, .int .i64 0, .int .i64 0, .int .i64 0, .int .i64 0, .int .i64 0, .int .i64 0, .int .i64 0, .bool false, .slice none 0 0, .slice none 0 0]) rfl) 10 (.int .i64 0) (cs' := #[.int .i64 0, .int .i64 0, .int .i64 0, .int .i64 0, .int .i64 0, .int .i64 0, .int .i64 0, .int .i64 0, .int .i64 0, .int .i64 0, .int .i64 0, .int .i64 0, .bool false, .slice none 0 0, .slice none 0 0]) rfl) 11 (.int .i64 0) (cs' := #[.int .i64 0, .int .i64 0, .int .i64 0, .int .i64 0, .int .i64 0, .int .i64 0, .int .i64 0, .int .i64 0, .int .i64 0, .int .i64 0, .int .i64 0, .int .i64 0, .bool false, .slice none 0 0, .slice none 0 0]) rfl) 12 (.bool false) (cs' := #[.int .i64 0, .int .i64 0, .int .i64 0, .int .i64 0, .int .i64 0, .int .i64 0, .int .i64 0, .int .i64 0, .int .i64 0, .int .i64 0, .int .i64 0, .int .i64 0, .bool false, .slice none 0 0, .slice none 0 0]) rfl) 13 (.slice none 0 0) (cs' := #[.int .i64 0, .int .i64 0, .int .i64 0, .int .i64 0, .int .i64 0, .int .i64 0, .int .i64 0, .int .i64 0, .int .i64 0, .int .i64 0, .int .i64 0, .int .i64 0, .bool false, .slice none 0 0, .slice none 0 0]) rfl) 14 (.slice none 0 0) (cs' := #[.int .i64 0, .int .i64 0, .int .i64 0, .int .i64 0, .int .i64 0, .int .i64 0, .int .i64 0, .int .i64 0, .int .i64 0, .int .i64 0, .int .i64 0, .int .i64 0, .bool false, .slice none 0 0, .slice none 0 0]) rfl); clear ZB ZX x_zc0 x_zf0 x_zc1 x_zf1 x_zc2 x_zf2 x_zc3 x_zf3 x_zc4 x_zf4 x_zc5 x_zf5 x_zc6 x_zf6 x_zc7 x_zf7 x_zc8 x_zf8 x_zc9 x_zf9 x_zc10 x_zf10 x_zc11 x_zf11 x_zc12 x_zf12 x_zc13 x_zf13 x_zc14 x_zf14; generalize (((((((((((((((w11m.setCell ⟨g14, 0, none⟩ (.int .i64 0)).setCell ⟨g14, 1, none⟩ (.int .i64 0)).setCell ⟨g14, 2, none⟩ (.int .i64 0)).setCell ⟨g14, 3, none⟩ (.int .i64 0)).setCell ⟨g14, 4, none⟩ (.int .i64 0)).setCell ⟨g14, 5, none⟩ (.int .i64 0)).setCell ⟨g14, 6, none⟩ (.int .i64 0)).setCell ⟨g14, 7, none⟩ (.int .i64 0)).setCell ⟨g14, 8, none⟩ (.int .i64 0)).setCell ⟨g14, 9, none⟩ (.int .i64 0)).setCell ⟨g14, 10, none⟩ (.int .i64 0)).setCell ⟨g14, 11, none⟩ (.int .i64 0)).setCell ⟨g14, 12, none⟩ (.bool false)).setCell ⟨g14, 13, none⟩ (.slice none 0 0)).setCell ⟨g14, 14, none⟩ (.slice none 0 0)) = w11 at NB11 X11 ⊢; have B11 := Aside0.mk (below_step B10.out NB11.out); have I11 := Aside0.mk (I10.out.below NB11.out); ))
              refine (net_Len I11.out).mono ?_; rintro x w12 ⟨rfl, hb⟩; have B12 := Aside0.mk (below_step B11.out hb); clear hb
              go_wp2_with fail
              go_ret
              exact ⟨rfl, B12.out⟩
end Go.Proofs.Ythgdojaildccaaa.Pure
