/-
  MsgWrites, walked by hand: raw messages are the document's bytes, behind what is there, or refused; and read as they were.
-/
import Derived.Test.YtgmfafmefafiiaaHSays
import Derived.Test.YtgmfafmefafiiaaPRefW11
import Derived.Test.YtgmfafmefafiiaaHSame
import Derived.Test.YtgmfafmefafiiaaRowMsgWrites
namespace Go.Proofs.Ytgmfafmefafiiaa.Pure
open Go.Proofs.Ytgmfafmefafiiaa.Pure.Msg
open Go.RowKit Go.Proofs.Ytgmfafmefafiiaa.M Go.Proofs.YtgmfafmefafiiaaW.PrintWords Go.Proofs.YtgmfafmefafiiaaW.PrintLast Go.Proofs.YtgmfafmefafiiaaW.PrintMore Go.Proofs.Ytgmfafmefafiiaa.Pure.Code
set_option linter.unusedVariables false
set_option linter.unusedSimpArgs false
theorem wide_of {m : S28} (h : G28 m) : Wide m := by
  obtain ⟨h0, h1, h2, h3, h4, h5, h6, -, h8, h9⟩ := h
  refine ⟨fun x hx => ?_, wf_i64 h6, fun x hx y hy => ?_, fun x hx => wf_i64 (h9.2 x hx)⟩
  · simp only [head, List.mem_cons, List.not_mem_nil, or_false] at hx
    rcases hx with rfl | rfl | rfl | rfl | rfl | rfl | rfl
    · exact wf_i64 h0
    · exact wf_i64 h1.1
    · exact wf_i64 h1.2
    · exact wf_i64 h2
    · exact wf_i64 h3
    · exact wf_i64 h4
    · exact wf_i64 h5
  · have hg := h8.2 x hx
    simp only [lineL, List.mem_cons, List.not_mem_nil, or_false] at hy
    rcases hy with rfl | rfl | rfl | rfl
    · exact wf_i64 hg.1.1
    · exact wf_i64 hg.1.2
    · exact wf_i64 hg.2.1
    · exact wf_i64 hg.2.2
theorem msg_Readw {A0 : Option Addr} {c0 n : Nat} {l : List Int} {w : World} (hn : n = l.length) (hr0 : Kd.C (Kd.int .u8) w A0 l.length l) (hc0 : l.length ≤ c0) (hl : l.length ≤ 1000000) (hb : Bytes l) :
    Calls Try.prog 14 #[.slice A0 n c0] w (Read_ w l) := by subst hn; exact msg_Read hr0 hc0 hl hb
set_option maxHeartbeats 8000000 in
set_option maxRecDepth 100000 in
theorem MsgWrites_walk (A0 : Option Addr) (c0 : Nat) (l0 : List Int) (m : S28) (A8 : Option Addr) (C8 : Nat) (A9 : Option Addr) (C9 : Nat) (w : World)
    (hr0 : Kd.C (Kd.int .u8) w A0 l0.length l0) (hc0 : l0.length ≤ c0) (hr8 : Kd.C k50 w A8 m.f8.length m.f8) (hc8 : m.f8.length ≤ C8) (hr9 : Kd.C (Kd.int .i64) w A9 m.f9.length m.f9) (hc9 : m.f9.length ≤ C9) (hw : Wide m) (hb8 : m.f8.length ≤ 4611686018427387904) (hb9 : m.f9.length ≤ 4611686018427387904) :
    Calls Try.prog 3 #[.slice A0 l0.length c0, .agg #[.int .i64 m.f0, .int .i64 m.f1.f0, .int .i64 m.f1.f1, .int .i64 m.f2, .int .i64 m.f3, .int .i64 m.f4, .int .i64 m.f5, .int .i64 m.f6, .bool m.f7, .slice A8 m.f8.length C8, .slice A9 m.f9.length C9]] w fun e w' => e = .returned (.bool true) ∧ Below w.heap.size w w' := by
  have B0 := Aside0.mk (Below.refl w.heap.size w)
  have R0 := Aside0.mk hr0; have R8 := Aside0.mk hr8; have R9 := Aside0.mk hr9; have HW := Aside0.mk hw; have N8 := Aside0.mk hb8; have N9 := Aside0.mk hb9
  obtain ⟨rf, hrf⟩ : ∃ r, contralaw11_fits.f m.f0 m.f1.f0 m.f1.f1 m.f2 m.f3 m.f4 m.f5 m.f6 m.f7 m.f8 m.f9 = some r := by unfold contralaw11_fits.f; (repeat' split) <;> exact ⟨_, rfl⟩
  have HF := Aside0.mk hrf
  obtain ⟨kw, hkw⟩ := (refw_ev hw).rounds
  have HK := Aside0.mk hkw
  clear hr0 hr8 hr9 hw hrf hb8 hb9 hkw
  go_enter Try.func3, Try.ntmps3
  go_wp2_with (first | ((with_reducible refine gate_dst (N := 3) rfl ?_); refine box_event ?hg (N := 3) ?hd (cs := #[.int .i64 m.f0, .int .i64 m.f1.f0, .int .i64 m.f1.f1, .int .i64 m.f2, .int .i64 m.f3, .int .i64 m.f4, .int .i64 m.f5, .int .i64 m.f6, .bool m.f7, .slice A8 m.f8.length C8, .slice A9 m.f9.length C9]) (t := 28) ?hr ?_; (case hd => rfl); (case hg => rfl); (case hr => first | (go_simp; done) | (go_simp; rfl)); intro g3 hg w1 hbox hb; have B1 := Aside0.mk (below_step B0.out hb); have M1 := Aside0.mk hbox; clear hb hg hbox))
  refine (says_calls w1).mono ?_; rintro x w2 ⟨rfl, hb⟩; have B2 := Aside0.mk (below_step B1.out hb); have M2 := Aside0.mk (blk_below M1.out hb); clear hb; have m_c0 : w2.cell? ⟨g3, 0, none⟩ = some (.int .i64 m.f0) := (blk_cell M2.out 0).trans rfl; have m_f0 := blk_frozen M2.out 0; have m_c1 : w2.cell? ⟨g3, 1, none⟩ = some (.int .i64 m.f1.f0) := (blk_cell M2.out 1).trans rfl; have m_f1 := blk_frozen M2.out 1; have m_c2 : w2.cell? ⟨g3, 2, none⟩ = some (.int .i64 m.f1.f1) := (blk_cell M2.out 2).trans rfl; have m_f2 := blk_frozen M2.out 2; have m_c3 : w2.cell? ⟨g3, 3, none⟩ = some (.int .i64 m.f2) := (blk_cell M2.out 3).trans rfl; have m_f3 := blk_frozen M2.out 3; have m_c4 : w2.cell? ⟨g3, 4, none⟩ = some (.int .i64 m.f3) := (blk_cell M2.out 4).trans rfl; have m_f4 := blk_frozen M2.out 4; have m_c5 : w2.cell? ⟨g3, 5, none⟩ = some (.int .i64 m.f4) := (blk_cell M2.out 5).trans rfl; have m_f5 := blk_frozen M2.out 5; have m_c6 : w2.cell? ⟨g3, 6, none⟩ = some (.int .i64 m.f5) := (blk_cell M2.out 6).trans rfl; have m_f6 := blk_frozen M2.out 6; have m_c7 : w2.cell? ⟨g3, 7, none⟩ = some (.int .i64 m.f6) := (blk_cell M2.out 7).trans rfl; have m_f7 := blk_frozen M2.out 7; have m_c8 : w2.cell? ⟨g3, 8, none⟩ = some (.bool m.f7) := (blk_cell M2.out 8).trans rfl; have m_f8 := blk_frozen M2.out 8; have m_c9 : w2.cell? ⟨g3, 9, none⟩ = some (.slice A8 m.f8.length C8) := (blk_cell M2.out 9).trans rfl; have m_f9 := blk_frozen M2.out 9; have m_c10 : w2.cell? ⟨g3, 10, none⟩ = some (.slice A9 m.f9.length C9) := (blk_cell M2.out 10).trans rfl; have m_f10 := blk_frozen M2.out 10
  by_cases h500 : l0.length > 500
  · have d1 : decide (500 < (l0.length : Int)) = true := decide_eq_true (by omega)
    have d2 : decide (500 < l0.length) = true := decide_eq_true h500
    have d3 : (500 < l0.length) = True := eq_true h500
    clear h500
    go_wp2_with fail
    go_ret
    exact ⟨rfl, B2.out⟩
  have d1 : decide (500 < (l0.length : Int)) = false := decide_eq_false (by omega)
  have d2 : decide (500 < l0.length) = false := decide_eq_false h500
  have d3 : (500 < l0.length) = False := eq_false h500
  have H5 := Aside0.mk (show l0.length ≤ 500 by omega)
  clear h500
  go_wp2_with fail
  refine (contralaw11_fits.calls m.f0 m.f1.f0 m.f1.f1 m.f2 m.f3 m.f4 m.f5 m.f6 m.f7 A8 C8 m.f8 A9 C9 m.f9 rf w2 (Kd.C_below R8.out B2.out) hc8 (Kd.C_below R9.out B2.out) hc9 HF.out).mono ?_; rintro x w3 ⟨rfl, hb⟩; have B3 := Aside0.mk (below_step B2.out hb); have M3 := Aside0.mk (blk_below M2.out hb); clear hb m_c0 m_f0 m_c1 m_f1 m_c2 m_f2 m_c3 m_f3 m_c4 m_f4 m_c5 m_f5 m_c6 m_f6 m_c7 m_f7 m_c8 m_f8 m_c9 m_f9 m_c10 m_f10; have m_c0 : w3.cell? ⟨g3, 0, none⟩ = some (.int .i64 m.f0) := (blk_cell M3.out 0).trans rfl; have m_f0 := blk_frozen M3.out 0; have m_c1 : w3.cell? ⟨g3, 1, none⟩ = some (.int .i64 m.f1.f0) := (blk_cell M3.out 1).trans rfl; have m_f1 := blk_frozen M3.out 1; have m_c2 : w3.cell? ⟨g3, 2, none⟩ = some (.int .i64 m.f1.f1) := (blk_cell M3.out 2).trans rfl; have m_f2 := blk_frozen M3.out 2; have m_c3 : w3.cell? ⟨g3, 3, none⟩ = some (.int .i64 m.f2) := (blk_cell M3.out 3).trans rfl; have m_f3 := blk_frozen M3.out 3; have m_c4 : w3.cell? ⟨g3, 4, none⟩ = some (.int .i64 m.f3) := (blk_cell M3.out 4).trans rfl; have m_f4 := blk_frozen M3.out 4; have m_c5 : w3.cell? ⟨g3, 5, none⟩ = some (.int .i64 m.f4) := (blk_cell M3.out 5).trans rfl; have m_f5 := blk_frozen M3.out 5; have m_c6 : w3.cell? ⟨g3, 6, none⟩ = some (.int .i64 m.f5) := (blk_cell M3.out 6).trans rfl; have m_f6 := blk_frozen M3.out 6; have m_c7 : w3.cell? ⟨g3, 7, none⟩ = some (.int .i64 m.f6) := (blk_cell M3.out 7).trans rfl; have m_f7 := blk_frozen M3.out 7; have m_c8 : w3.cell? ⟨g3, 8, none⟩ = some (.bool m.f7) := (blk_cell M3.out 8).trans rfl; have m_f8 := blk_frozen M3.out 8; have m_c9 : w3.cell? ⟨g3, 9, none⟩ = some (.slice A8 m.f8.length C8) := (blk_cell M3.out 9).trans rfl; have m_f9 := blk_frozen M3.out 9; have m_c10 : w3.cell? ⟨g3, 10, none⟩ = some (.slice A9 m.f9.length C9) := (blk_cell M3.out 10).trans rfl; have m_f10 := blk_frozen M3.out 10
  cases rf
  · clear HF
    go_wp2_with fail
    go_ret
    exact ⟨rfl, B3.out⟩
  go_wp2_with fail
  clear d1 d2 d3
  refine (msg_Write (m := m) (A0 := A0) (c0 := c0) (l0 := l0) (A8 := A8) (C8 := C8) (A9 := A9) (C9 := C9) (Kd.C_below R0.out B3.out) hc0 (Nat.le_trans H5.out (by decide)) (Kd.C_below R8.out B3.out) hc8 (Kd.C_below R9.out B3.out) hc9 HW.out N8.out N9.out).mono ?_
  intro x w4 hQ
  obtain ⟨hB, h⟩ := hQ
  have B4 := Aside0.mk (below_step B3.out hB); have M4 := Aside0.mk (blk_below M3.out hB)
  clear m_c0 m_f0 m_c1 m_f1 m_c2 m_f2 m_c3 m_f3 m_c4 m_f4 m_c5 m_f5 m_c6 m_f6 m_c7 m_f7 m_c8 m_f8 m_c9 m_f9 m_c10 m_f10 hB HF
  have m_c0 : w4.cell? ⟨g3, 0, none⟩ = some (.int .i64 m.f0) := (blk_cell M4.out 0).trans rfl; have m_f0 := blk_frozen M4.out 0; have m_c1 : w4.cell? ⟨g3, 1, none⟩ = some (.int .i64 m.f1.f0) := (blk_cell M4.out 1).trans rfl; have m_f1 := blk_frozen M4.out 1; have m_c2 : w4.cell? ⟨g3, 2, none⟩ = some (.int .i64 m.f1.f1) := (blk_cell M4.out 2).trans rfl; have m_f2 := blk_frozen M4.out 2; have m_c3 : w4.cell? ⟨g3, 3, none⟩ = some (.int .i64 m.f2) := (blk_cell M4.out 3).trans rfl; have m_f3 := blk_frozen M4.out 3; have m_c4 : w4.cell? ⟨g3, 4, none⟩ = some (.int .i64 m.f3) := (blk_cell M4.out 4).trans rfl; have m_f4 := blk_frozen M4.out 4; have m_c5 : w4.cell? ⟨g3, 5, none⟩ = some (.int .i64 m.f4) := (blk_cell M4.out 5).trans rfl; have m_f5 := blk_frozen M4.out 5; have m_c6 : w4.cell? ⟨g3, 6, none⟩ = some (.int .i64 m.f5) := (blk_cell M4.out 6).trans rfl; have m_f6 := blk_frozen M4.out 6; have m_c7 : w4.cell? ⟨g3, 7, none⟩ = some (.int .i64 m.f6) := (blk_cell M4.out 7).trans rfl; have m_f7 := blk_frozen M4.out 7; have m_c8 : w4.cell? ⟨g3, 8, none⟩ = some (.bool m.f7) := (blk_cell M4.out 8).trans rfl; have m_f8 := blk_frozen M4.out 8; have m_c9 : w4.cell? ⟨g3, 9, none⟩ = some (.slice A8 m.f8.length C8) := (blk_cell M4.out 9).trans rfl; have m_f9 := blk_frozen M4.out 9; have m_c10 : w4.cell? ⟨g3, 10, none⟩ = some (.slice A9 m.f9.length C9) := (blk_cell M4.out 10).trans rfl; have m_f10 := blk_frozen M4.out 10
  rcases h with ⟨rfl, hne⟩ | ⟨v, rfl, hO, hc00⟩
  · have hkk := HK.out
    rw [if_neg hne] at hkk
    have HK2 := Aside0.mk hkk
    clear hkk
    go_wp2_with fail
    refine (contraref11_Write.calls kw m.f0 m.f1.f0 m.f1.f1 m.f2 m.f3 m.f4 m.f5 m.f6 m.f7 A8 C8 m.f8 A9 C9 m.f9 _ _ w4 (Kd.C_below R8.out B4.out) hc8 (Kd.C_below R9.out B4.out) hc9 HK2.out).mono ?_; rintro x w5 ⟨rfl, hb⟩; have B5 := Aside0.mk (below_step B4.out hb); clear hb m_c0 m_f0 m_c1 m_f1 m_c2 m_f2 m_c3 m_f3 m_c4 m_f4 m_c5 m_f5 m_c6 m_f6 m_c7 m_f7 m_c8 m_f8 m_c9 m_f9 m_c10 m_f10
    have z1 : (wcode m != 0) = true := bne_iff_ne.mpr hne
    clear hne
    go_wp2_with fail
    go_ret
    exact ⟨rfl, B5.out⟩
  have hkk := HK.out
  rw [if_pos hc00] at hkk
  have HK2 := Aside0.mk hkk
  have hRB := read_body hc00 HW.out
  have hbf := body_fits hc00 HW.out
  have hby := body_bytes m
  obtain ⟨L, hL⟩ : ∃ L, L = body m := ⟨_, rfl⟩
  rw [← hL] at hO hRB hbf hby hkk
  obtain ⟨T, hT⟩ : ∃ T, T = l0 ++ L := ⟨_, rfl⟩
  have hTd : T.drop ((l0.length : Int)).toNat = L := by rw [hT, Int.toNat_natCast, List.drop_left]
  have hTl : T.length = l0.length + L.length := by rw [hT, List.length_append]
  have hTs : strOfNums T = strOfNums l0 ++ strOfNums L := by rw [hT, str_append]
  rw [← hT] at hO
  obtain ⟨A5, c5, e5, hc5, hC5⟩ := Kd.R_reads hO
  subst e5
  obtain ⟨i0, hi0, _, hsz0, _⟩ := info_parts info5
  obtain ⟨A6, hcut, hcr, hcl⟩ := print_cut_int (P := Try.prog) (k := .u8) 22 5 Try.underlying22 hi0 hsz0 A5 c5 T (l0.length : Int) (by omega) (by rw [hTl]; omega) hc5
  rw [hTd] at hcut hcr hcl
  have L5 := Aside0.mk hc5; have C5 := Aside0.mk hC5; have HC := Aside0.mk hc00; have RB := Aside0.mk hRB; have HL := Aside0.mk hbf; have BY := Aside0.mk hby; have HK3 := Aside0.mk hkk
  have RC := Aside0.mk (Kd.C_of_reads (h1 := fun _ => rfl) (hcr _ (Kd.reads_of_C hC5)))
  have HCL := Aside0.mk hcl; have HTL := Aside0.mk hTl; have HTS := Aside0.mk hTs
  clear hkk hO hRB hbf hby hL hT hTd hTl hTs hc5 hC5 hcr hcl hc00 HK2
  go_wp2_with fail
  refine (contraref11_Write.calls kw m.f0 m.f1.f0 m.f1.f1 m.f2 m.f3 m.f4 m.f5 m.f6 m.f7 A8 C8 m.f8 A9 C9 m.f9 _ _ w4 (Kd.C_below R8.out B4.out) hc8 (Kd.C_below R9.out B4.out) hc9 HK3.out).mono ?_; rintro x w5 ⟨rfl, hb⟩; have B5 := Aside0.mk (below_step B4.out hb); have M5 := Aside0.mk (blk_below M4.out hb); have D5 := Aside0.mk (Kd.C_below RC.out hb)
  have hcv1 := Kd.C_string (P := Try.prog) (c := c5) Try.underlying22 Try.underlying5 Try.underlying9 (Kd.C_below C5.out hb)
  rw [HTS.out] at hcv1
  have hcv2 := Kd.C_string (P := Try.prog) (c := c0) Try.underlying22 Try.underlying5 Try.underlying9 (Kd.C_below R0.out B5.out)
  have z1 : (9223372036854775807 < (strOfNums l0).size + (strOfNums L).size) = False := eq_false (by rw [str_size, str_size]; have := H5.out; have := HL.out; omega)
  clear hb m_c0 m_f0 m_c1 m_f1 m_c2 m_f2 m_c3 m_f3 m_c4 m_f4 m_c5 m_f5 m_c6 m_f6 m_c7 m_f7 m_c8 m_f8 m_c9 m_f9 m_c10 m_f10
  go_wp2_with fail
  refine (msg_Readw (l := L) (by simp) D5.out HCL.out (Nat.le_trans HL.out (by decide)) BY.out).mono ?_
  intro x w6 hR
  obtain ⟨hB2, v8, v9, hx, hO8, hO9⟩ := hR
  rw [RB.out] at hx hO8 hO9
  obtain ⟨D8, d8, e8, hl8, hC8⟩ := Kd.R_reads hO8
  obtain ⟨D9, d9, e9, hl9, hC9⟩ := Kd.R_reads hO9
  subst e8 e9 hx
  have B6 := Aside0.mk (below_step B5.out hB2); have M6 := Aside0.mk (blk_below M5.out hB2); have E8 := Aside0.mk hC8; have E9 := Aside0.mk hC9
  clear hB2 hO8 hO9 hl8 hl9 hC8 hC9 hcv1 hcv2 hcut z1
  dsimp only
  go_wp2_with (first | ((with_reducible refine gate_dst (N := 9) rfl ?_); refine box_event ?hg (N := 9) ?hd (cs := #[.int .i64 0, .int .i64 0, .int .i64 0, .int .i64 0, .int .i64 0, .int .i64 0, .int .i64 0, .int .i64 0, .bool false, .slice none 0 0, .slice none 0 0]) (t := 28) ?hr ?_; (case hd => rfl); (case hg => rfl); (case hr => first | (go_simp; done) | (go_simp; rfl)); intro g9 hg w7m hbox hb; have ZB := Aside0.mk hb; have ZX := Aside0.mk hbox; have Y7g := Aside0.mk (show w6.heap.size ≤ g9 from by rw [hg]; exact Nat.le_refl _); have y_zc0 : w7m.cell? ⟨g9, 0, none⟩ = some (.int .i64 0) := (blk_cell ZX.out 0).trans rfl; have y_zf0 := blk_frozen ZX.out 0; have y_zc1 : w7m.cell? ⟨g9, 1, none⟩ = some (.int .i64 0) := (blk_cell ZX.out 1).trans rfl; have y_zf1 := blk_frozen ZX.out 1; have y_zc2 : w7m.cell? ⟨g9, 2, none⟩ = some (.int .i64 0) := (blk_cell ZX.out 2).trans rfl; have y_zf2 := blk_frozen ZX.out 2; have y_zc3 : w7m.cell? ⟨g9, 3, none⟩ = some (.int .i64 0) := (blk_cell ZX.out 3).trans rfl; have y_zf3 := blk_frozen ZX.out 3; have y_zc4 : w7m.cell? ⟨g9, 4, none⟩ = some (.int .i64 0) := (blk_cell ZX.out 4).trans rfl; have y_zf4 := blk_frozen ZX.out 4; have y_zc5 : w7m.cell? ⟨g9, 5, none⟩ = some (.int .i64 0) := (blk_cell ZX.out 5).trans rfl; have y_zf5 := blk_frozen ZX.out 5; have y_zc6 : w7m.cell? ⟨g9, 6, none⟩ = some (.int .i64 0) := (blk_cell ZX.out 6).trans rfl; have y_zf6 := blk_frozen ZX.out 6; have y_zc7 : w7m.cell? ⟨g9, 7, none⟩ = some (.int .i64 0) := (blk_cell ZX.out 7).trans rfl; have y_zf7 := blk_frozen ZX.out 7; have y_zc8 : w7m.cell? ⟨g9, 8, none⟩ = some (.bool false) := (blk_cell ZX.out 8).trans rfl; have y_zf8 := blk_frozen ZX.out 8; have y_zc9 : w7m.cell? ⟨g9, 9, none⟩ = some (.slice none 0 0) := (blk_cell ZX.out 9).trans rfl; have y_zf9 := blk_frozen ZX.out 9; have y_zc10 : w7m.cell? ⟨g9, 10, none⟩ = some (.slice none 0 0) := (blk_cell ZX.out 10).trans rfl; have y_zf10 := blk_frozen ZX.out 10; clear hb hg hbox) | ((with_reducible refine gate_dst (N := 56) rfl ?_); have NB7 := Aside0.mk (below_setB (below_setB (below_setB (below_setB (below_setB (below_setB (below_setB (below_setB (below_setB (below_setB (below_setB ZB.out (p := ⟨g9, 0, none⟩) Y7g.out (.int .i64 m.f0)) (p := ⟨g9, 1, none⟩) Y7g.out (.int .i64 m.f1.f0)) (p := ⟨g9, 2, none⟩) Y7g.out (.int .i64 m.f1.f1)) (p := ⟨g9, 3, none⟩) Y7g.out (.int .i64 m.f2)) (p := ⟨g9, 4, none⟩) Y7g.out (.int .i64 m.f3)) (p := ⟨g9, 5, none⟩) Y7g.out (.int .i64 m.f4)) (p := ⟨g9, 6, none⟩) Y7g.out (.int .i64 m.f5)) (p := ⟨g9, 7, none⟩) Y7g.out (.int .i64 m.f6)) (p := ⟨g9, 8, none⟩) Y7g.out (.bool m.f7)) (p := ⟨g9, 9, none⟩) Y7g.out (.slice D8 m.f8.length d8)) (p := ⟨g9, 10, none⟩) Y7g.out (.slice D9 m.f9.length d9)); have Y7 := Aside0.mk (blk_put (blk_put (blk_put (blk_put (blk_put (blk_put (blk_put (blk_put (blk_put (blk_put (blk_put ZX.out 0 (.int .i64 m.f0) (cs' := #[.int .i64 m.f0, .int .i64 0, .int .i64 0, .int .i64 0, .int .i64 0, .int .i64 0, .int .i64 0, .int .i64 0, .bool false, .slice none 0 0, .slice none 0 0]) rfl) 1 (.int .i64 m.f1.f0) (cs' := #[.int .i64 m.f0, .int .i64 m.f1.f0, .int .i64 0, .int .i64 0, .int .i64 0, .int .i64 0, .int .i64 0, .int .i64 0, .bool false, .slice none 0 0, .slice none 0 0]) rfl) 2 (.int .i64 m.f1.f1) (cs' := #[.int .i64 m.f0, .int .i64 m.f1.f0, .int .i64 m.f1.f1, .int .i64 0, .int .i64 0, .int .i64 0, .int .i64 0, .int .i64 0, .bool false, .slice none 0 0, .slice none 0 0]) rfl) 3 (.int .i64 m.f2) (cs' := #[.int .i64 m.f0, .int .i64 m.f1.f0, .int .i64 m.f1.f1, .int .i64 m.f2, .int .i64 0, .int .i64 0, .int .i64 0, .int .i64 0, .bool false, .slice none 0 0, .slice none 0 0]) rfl) 4 (.int .i64 m.f3) (cs' := #[.int .i64 m.f0, .int .i64 m.f1.f0, .int .i64 m.f1.f1, .int .i64 m.f2, .int .i64 m.f3, .int .i64 0, .int .i64 0, .int .i64 0, .bool false, .slice none 0 0, .slice none 0 0]) rfl) 5 (.int .i64 m.f4) (cs' := #[.int .i64 m.f0, .int .i64 m.f1.f0, .int .i64 m.f1.f1, .int .i64 m.f2, .int .i64 m.f3, .int .i64 m.f4, .int .i64 0, .int .i64 0, .bool false, .slice none 0 0, .slice none 0 0]) rfl) 6 (.int .i64 m.f5) (cs' := #[.int .i64 m.f0, .int .i64 m.f1.f0, .int .i64 m.f1.f1, .int .i64 m.f2, .int .i64 m.f3, .int .i64 m.f4, .int .i64 m.f5, .int .i64 0, .bool false, .slice none 0 0, .slice none 0 0]) rfl) 7 (.int .i64 m.f6) (cs' := #[.int .i64 m.f0, .int .i64 m.f1.f0, .int .i64 m.f1.f1, .int .i64 m.f2, .int .i64 m.f3, .int .i64 m.f4, .int .i64 m.f5, .int .i64 m.f6, .bool false, .slice none 0 0, .slice none 0 0]) rfl) 8 (.bool m.f7) (cs' := #[.int .i64 m.f0, .int .i64 m.f1.f0, .int .i64 m.f1.f1, .int .i64 m.f2, .int .i64 m.f3, .int .i64 m.f4, .int .i64 m.f5, .int .i64 m.f6, .bool m.f7, .slice none 0 0, .slice none 0 0]) rfl) 9 (.slice D8 m.f8.length d8) (cs' := #[.int .i64 m.f0, .int .i64 m.f1.f0, .int .i64 m.f1.f1, .int .i64 m.f2, .int .i64 m.f3, .int .i64 m.f4, .int .i64 m.f5, .int .i64 m.f6, .bool m.f7, .slice D8 m.f8.length d8, .slice none 0 0]) rfl) 10 (.slice D9 m.f9.length d9) (cs' := #[.int .i64 m.f0, .int .i64 m.f1.f0, .int .i64 m.f1.f1, .int .i64 m.f2, .int .i64 m.f3, .int .i64 m.f4, .int .i64 m.f5, .int .i64 m.f6, .bool m.f7, .slice D8 m.f8.length d8, .slice D9 m.f9.length d9]) rfl); clear ZB ZX y_zc0 y_zf0 y_zc1 y_zf1 y_zc2 y_zf2 y_zc3 y_zf3 y_zc4 y_zf4 y_zc5 y_zf5 y_zc6 y_zf6 y_zc7 y_zf7 y_zc8 y_zf8 y_zc9 y_zf9 y_zc10 y_zf10; generalize (((((((((((w7m.setCell ⟨g9, 0, none⟩ (.int .i64 m.f0)).setCell ⟨g9, 1, none⟩ (.int .i64 m.f1.f0)).setCell ⟨g9, 2, none⟩ (.int .i64 m.f1.f1)).setCell ⟨g9, 3, none⟩ (.int .i64 m.f2)).setCell ⟨g9, 4, none⟩ (.int .i64 m.f3)).setCell ⟨g9, 5, none⟩ (.int .i64 m.f4)).setCell ⟨g9, 6, none⟩ (.int .i64 m.f5)).setCell ⟨g9, 7, none⟩ (.int .i64 m.f6)).setCell ⟨g9, 8, none⟩ (.bool m.f7)).setCell ⟨g9, 9, none⟩ (.slice D8 m.f8.length d8)).setCell ⟨g9, 10, none⟩ (.slice D9 m.f9.length d9)) = w7 at NB7 Y7 ⊢; have B7 := Aside0.mk (below_step B6.out NB7.out); have M7 := Aside0.mk (blk_below M6.out NB7.out); have m_c0 : w7.cell? ⟨g3, 0, none⟩ = some (.int .i64 m.f0) := (blk_cell M7.out 0).trans rfl; have m_f0 := blk_frozen M7.out 0; have m_c1 : w7.cell? ⟨g3, 1, none⟩ = some (.int .i64 m.f1.f0) := (blk_cell M7.out 1).trans rfl; have m_f1 := blk_frozen M7.out 1; have m_c2 : w7.cell? ⟨g3, 2, none⟩ = some (.int .i64 m.f1.f1) := (blk_cell M7.out 2).trans rfl; have m_f2 := blk_frozen M7.out 2; have m_c3 : w7.cell? ⟨g3, 3, none⟩ = some (.int .i64 m.f2) := (blk_cell M7.out 3).trans rfl; have m_f3 := blk_frozen M7.out 3; have m_c4 : w7.cell? ⟨g3, 4, none⟩ = some (.int .i64 m.f3) := (blk_cell M7.out 4).trans rfl; have m_f4 := blk_frozen M7.out 4; have m_c5 : w7.cell? ⟨g3, 5, none⟩ = some (.int .i64 m.f4) := (blk_cell M7.out 5).trans rfl; have m_f5 := blk_frozen M7.out 5; have m_c6 : w7.cell? ⟨g3, 6, none⟩ = some (.int .i64 m.f5) := (blk_cell M7.out 6).trans rfl; have m_f6 := blk_frozen M7.out 6; have m_c7 : w7.cell? ⟨g3, 7, none⟩ = some (.int .i64 m.f6) := (blk_cell M7.out 7).trans rfl; have m_f7 := blk_frozen M7.out 7; have m_c8 : w7.cell? ⟨g3, 8, none⟩ = some (.bool m.f7) := (blk_cell M7.out 8).trans rfl; have m_f8 := blk_frozen M7.out 8; have m_c9 : w7.cell? ⟨g3, 9, none⟩ = some (.slice A8 m.f8.length C8) := (blk_cell M7.out 9).trans rfl; have m_f9 := blk_frozen M7.out 9; have m_c10 : w7.cell? ⟨g3, 10, none⟩ = some (.slice A9 m.f9.length C9) := (blk_cell M7.out 10).trans rfl; have m_f10 := blk_frozen M7.out 10; have y_c0 : w7.cell? ⟨g9, 0, none⟩ = some (.int .i64 m.f0) := (blk_cell Y7.out 0).trans rfl; have y_f0 := blk_frozen Y7.out 0; have y_c1 : w7.cell? ⟨g9, 1, none⟩ = some (.int .i64 m.f1.f0) := (blk_cell Y7.out 1).trans rfl; have y_f1 := blk_frozen Y7.out 1; have y_c2 : w7.cell? ⟨g9, 2, none⟩ = some (.int .i64 m.f1.f1) := (blk_cell Y7.out 2).trans rfl; have y_f2 := blk_frozen Y7.out 2; have y_c3 : w7.cell? ⟨g9, 3, none⟩ = some (.int .i64 m.f2) := (blk_cell Y7.out 3).trans rfl; have y_f3 := blk_frozen Y7.out 3; have y_c4 : w7.cell? ⟨g9, 4, none⟩ = some (.int .i64 m.f3) := (blk_cell Y7.out 4).trans rfl; have y_f4 := blk_frozen Y7.out 4; have y_c5 : w7.cell? ⟨g9, 5, none⟩ = some (.int .i64 m.f4) := (blk_cell Y7.out 5).trans rfl; have y_f5 := blk_frozen Y7.out 5; have y_c6 : w7.cell? ⟨g9, 6, none⟩ = some (.int .i64 m.f5) := (blk_cell Y7.out 6).trans rfl; have y_f6 := blk_frozen Y7.out 6; have y_c7 : w7.cell? ⟨g9, 7, none⟩ = some (.int .i64 m.f6) := (blk_cell Y7.out 7).trans rfl; have y_f7 := blk_frozen Y7.out 7; have y_c8 : w7.cell? ⟨g9, 8, none⟩ = some (.bool m.f7) := (blk_cell Y7.out 8).trans rfl; have y_f8 := blk_frozen Y7.out 8; have y_c9 : w7.cell? ⟨g9, 9, none⟩ = some (.slice D8 m.f8.length d8) := (blk_cell Y7.out 9).trans rfl; have y_f9 := blk_frozen Y7.out 9; have y_c10 : w7.cell? ⟨g9, 10, none⟩ = some (.slice D9 m.f9.length d9) := (blk_cell Y7.out 10).trans rfl; have y_f10 := blk_frozen Y7.out 10))
  refine (same_calls (m := m) (w := w7) (Kd.C_below E8.out NB7.out) (Kd.C_below E9.out NB7.out) (Kd.C_below R8.out B7.out) (Kd.C_below R9.out B7.out) N8.out N9.out).mono ?_; rintro x w8 ⟨rfl, hb⟩; have B8 := Aside0.mk (below_step B7.out hb); clear hb
  go_wp2_with fail
  go_ret
  exact ⟨rfl, B8.out⟩
theorem MsgWrites_hand (A0 : Option Addr) (c0 : Nat) (l0 : List Int) (m0 m1 m2 m3 m4 m5 m6 m7 : Int) (m8 : Bool) (A8 : Option Addr) (C8 : Nat) (l8 : List S50) (A9 : Option Addr) (C9 : Nat) (l9 : List Int) (w : World)
    (hr0 : Kd.C (Kd.int .u8) w A0 l0.length l0) (hc0 : l0.length ≤ c0) (hr8 : Kd.C k50 w A8 l8.length l8) (hc8 : l8.length ≤ C8) (hr9 : Kd.C (Kd.int .i64) w A9 l9.length l9) (hc9 : l9.length ≤ C9)
    (g0 : l0.length * 1 ≤ 140737488351232 ∧ ∀ x ∈ l0, (Lit.int .u8 x).wf = true) (g1 : G28 ⟨m0, ⟨m1, m2⟩, m3, m4, m5, m6, m7, m8, l8, l9⟩) :
    Calls Try.prog 3 #[.slice A0 l0.length c0, .agg #[.int .i64 m0, .int .i64 m1, .int .i64 m2, .int .i64 m3, .int .i64 m4, .int .i64 m5, .int .i64 m6, .int .i64 m7, .bool m8, .slice A8 l8.length C8, .slice A9 l9.length C9]] w fun e w' => e = .returned (.bool true) ∧ Below w.heap.size w w' :=
  MsgWrites_walk A0 c0 l0 ⟨m0, ⟨m1, m2⟩, m3, m4, m5, m6, m7, m8, l8, l9⟩ A8 C8 A9 C9 w hr0 hc0 hr8 hc8 hr9 hc9 (wide_of g1)
    (by have := g1.2.2.2.2.2.2.2.2.1.1; simp only at this ⊢; omega) (by have := g1.2.2.2.2.2.2.2.2.2.1; simp only at this ⊢; omega)
end Go.Proofs.Ytgmfafmefafiiaa.Pure
