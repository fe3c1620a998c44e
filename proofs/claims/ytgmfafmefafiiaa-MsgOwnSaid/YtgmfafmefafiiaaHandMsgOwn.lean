/-
  MsgOwn, walked by hand: bytes and lists that are handed in and out are not shared.
-/
import Derived.Test.YtgmfafmefafiiaaHSays
import Derived.Test.YtgmfafmefafiiaaPMsg2
import Derived.Test.YtgmfafmefafiiaaHSame
import Derived.Test.YtgmfafmefafiiaaRowMsgOwn
namespace Go.Proofs.Ytgmfafmefafiiaa.Pure
open Go.Proofs.Ytgmfafmefafiiaa.Pure.Msg
open Go.RowKit Go.Proofs.Ytgmfafmefafiiaa.M Go.Proofs.YtgmfafmefafiiaaW.PrintWords Go.Proofs.YtgmfafmefafiiaaW.PrintLast Go.Proofs.YtgmfafmefafiiaaW.PrintMore Go.Proofs.Ytgmfafmefafiiaa.Pure.Code
set_option linter.unusedVariables false
set_option linter.unusedSimpArgs false
theorem wide_of {m : S28} (h : G28 m) : Wide m := by
  obtain ⟨h0, h1, h2, h3, h4, h5, h6, -, h8, h9⟩ := h
  refine ⟨fun x hx => ?_, wf_i64 h6, fun x hx y hy => ?_, fun x hx => wf_i64 (h9.2 x hx)⟩
  · simp only [head, List.mem_cons, List.not_mem_nil, or_false] at hx
    rcases hx with rfl | rfl | rfl | rfl | rfl | rfl | rfl
    · exact wf_i64 h0
    · exact wf_i64 h1.1
    · exact wf_i64 h1.2
    · exact wf_i64 h2
    · exact wf_i64 h3
    · exact wf_i64 h4
    · exact wf_i64 h5
  · have hg := h8.2 x hx
    simp only [lineL, List.mem_cons, List.not_mem_nil, or_false] at hy
    rcases hy with rfl | rfl | rfl | rfl
    · exact wf_i64 hg.1.1
    · exact wf_i64 hg.1.2
    · exact wf_i64 hg.2.1
    · exact wf_i64 hg.2.2
/-- a row of lines whose amounts may be anything -/
def Amts (w : World) (g n : Nat) : Prop := ∃ cs t, w.heap[g]? = some (.cells cs t (0, 0)) ∧ ∀ i < n, ∃ x, cs[i * 4 + 3]? = some (.int .i64 x)
theorem Amts.put {w : World} {g n : Nat} (h : Amts w g n) (j : Nat) (u : Int) : Amts (w.setCell ⟨g, j, none⟩ (.int .i64 u)) g n := by
  obtain ⟨cs, t, hb, hc⟩ := h
  refine ⟨_, t, blk_set hb j _, fun i hi => ?_⟩
  obtain ⟨x, hx⟩ := hc i hi
  have hlt := (Array.getElem?_eq_some_iff.1 hx).1
  by_cases e : j = i * 4 + 3
  · subst e; exact ⟨u, by rw [Array.getElem?_setIfInBounds_self_of_lt hlt]⟩
  · exact ⟨x, by rw [Array.getElem?_setIfInBounds_ne e]; exact hx⟩
theorem Amts.cell {w : World} {g n : Nat} (h : Amts w g n) {i : Nat} (hi : i < n) : ∃ x, w.cell? ⟨g, i * 4 + 3, none⟩ = some (.int .i64 x) ∧ w.frozen? ⟨g, i * 4 + 3, none⟩ = false := by
  obtain ⟨cs, t, hb, hc⟩ := h
  obtain ⟨x, hx⟩ := hc i hi
  exact ⟨x, (blk_cell hb _).trans hx, blk_frozen hb _⟩
theorem Amts.of {w w' : World} {g n : Nat} (h : Amts w g n) (e : w'.heap[g]? = w.heap[g]?) : Amts w' g n := by
  obtain ⟨cs, t, hb, hc⟩ := h
  exact ⟨cs, t, e.trans hb, hc⟩
theorem Amts.lt {w : World} {g n : Nat} (h : Amts w g n) : g < w.heap.size := by
  obtain ⟨cs, t, hb, hc⟩ := h
  exact blk_lt hb
/-- an own row's lines are such -/
theorem amts_of {w : World} {b : Nat} {ok : Nat → Prop} {A : Option Addr} {c : Nat} {xs : List S50} (h : Kd.R k50 50 w b ok (.slice A xs.length c) xs) (hb : b ≤ w.heap.size) : ∃ g, b ≤ g ∧ (xs.length = 0 ∨ (A = some ⟨g, 0, none⟩ ∧ Amts w g xs.length)) := by
  by_cases h0 : xs.length = 0
  · exact ⟨b, Nat.le_refl _, .inl h0⟩
  obtain ⟨g, cap, e, hbg, hg, cs, hc⟩ := Kd.R_form h (by omega)
  obtain ⟨rfl, -, rfl⟩ : A = some ⟨g, 0, none⟩ ∧ xs.length = xs.length ∧ c = cap := by injection e with a b c; exact ⟨a, b, c⟩
  refine ⟨g, hbg, .inr ⟨rfl, cs, _, hc, fun i hi => ?_⟩⟩
  obtain ⟨ad, e2, _, _, _, hx⟩ := at_T50 (Kd.R_reads' h).2.2 (i : Int) (by omega) (by omega)
  obtain rfl : (⟨g, 0, none⟩ : Addr) = ad := by injection e2
  have hy : w.cell? ⟨g, i * 4 + 3, none⟩ = some (.int .i64 (rd_T50 xs (i : Int)).f2) := by
    have := hx
    rw [Int.toNat_natCast] at this
    rcases Nat.eq_zero_or_pos i with rfl | hp
    · simpa [Addr.add] using this
    · have hz : i * 4 ≠ 0 := by omega
      simpa [Addr.add, hz] using this
  exact ⟨_, (blk_cell hc _).symm.trans hy⟩
theorem ne7_ {a b c d e f g h : Nat} (h1 : a < b) (h2 : b ≤ c) (h3 : c ≤ d) (h4 : d < e) (h5 : e ≤ f) (h6 : g ≤ h) (h7 : e ≤ g) : a < d ∧ d < f ∧ d < h := by omega
theorem kept_set {w w' : World} {g : Nat} (h : Kept w w' (fun k => k = g)) (j : Nat) (u : Value) : Kept w (w'.setCell ⟨g, j, none⟩ u) (fun k => k = g) := h.setCell (.inl rfl) u
set_option maxHeartbeats 8000000 in
set_option maxRecDepth 100000 in
theorem MsgOwn_walk (m : S28) (A8 : Option Addr) (C8 : Nat) (A9 : Option Addr) (C9 : Nat) (w : World)
    (hr8 : Kd.C k50 w A8 m.f8.length m.f8) (hc8 : m.f8.length ≤ C8) (hr9 : Kd.C (Kd.int .i64) w A9 m.f9.length m.f9) (hc9 : m.f9.length ≤ C9) (hw : Wide m) (hb8 : m.f8.length ≤ 4611686018427387904) (hb9 : m.f9.length ≤ 4611686018427387904) :
    Calls Try.prog 6 #[.agg #[.int .i64 m.f0, .int .i64 m.f1.f0, .int .i64 m.f1.f1, .int .i64 m.f2, .int .i64 m.f3, .int .i64 m.f4, .int .i64 m.f5, .int .i64 m.f6, .bool m.f7, .slice A8 m.f8.length C8, .slice A9 m.f9.length C9]] w fun e w' => e = .returned (.bool true) ∧ Below w.heap.size w w' := by
  have B0 := Aside0.mk (Below.refl w.heap.size w)
  have R8 := Aside0.mk hr8; have R9 := Aside0.mk hr9; have HW := Aside0.mk hw; have N8 := Aside0.mk hb8; have N9 := Aside0.mk hb9
  clear hr8 hr9 hw hb8 hb9
  go_enter Try.func6, Try.ntmps6
  go_wp2_with (first | ((with_reducible refine gate_dst (N := 1) rfl ?_); refine box_event ?hg (N := 1) ?hd (cs := #[.int .i64 m.f0, .int .i64 m.f1.f0, .int .i64 m.f1.f1, .int .i64 m.f2, .int .i64 m.f3, .int .i64 m.f4, .int .i64 m.f5, .int .i64 m.f6, .bool m.f7, .slice A8 m.f8.length C8, .slice A9 m.f9.length C9]) (t := 28) ?hr ?_; (case hd => rfl); (case hg => rfl); (case hr => first | (go_simp; done) | (go_simp; rfl)); intro g1 hg w1 hbox hb; have B1 := Aside0.mk (below_step B0.out hb); have M1 := Aside0.mk hbox; have G1 := Aside0.mk (blk_lt hbox); clear hb hg hbox))
  refine (says_calls w1).mono ?_; rintro x w2 ⟨rfl, hb⟩; have B2 := Aside0.mk (below_step B1.out hb); have M2 := Aside0.mk (blk_below M1.out hb); have S2 := Aside0.mk hb.size; clear hb; have m_c0 : w2.cell? ⟨g1, 0, none⟩ = some (.int .i64 m.f0) := (blk_cell M2.out 0).trans rfl; have m_f0 := blk_frozen M2.out 0; have m_c1 : w2.cell? ⟨g1, 1, none⟩ = some (.int .i64 m.f1.f0) := (blk_cell M2.out 1).trans rfl; have m_f1 := blk_frozen M2.out 1; have m_c2 : w2.cell? ⟨g1, 2, none⟩ = some (.int .i64 m.f1.f1) := (blk_cell M2.out 2).trans rfl; have m_f2 := blk_frozen M2.out 2; have m_c3 : w2.cell? ⟨g1, 3, none⟩ = some (.int .i64 m.f2) := (blk_cell M2.out 3).trans rfl; have m_f3 := blk_frozen M2.out 3; have m_c4 : w2.cell? ⟨g1, 4, none⟩ = some (.int .i64 m.f3) := (blk_cell M2.out 4).trans rfl; have m_f4 := blk_frozen M2.out 4; have m_c5 : w2.cell? ⟨g1, 5, none⟩ = some (.int .i64 m.f4) := (blk_cell M2.out 5).trans rfl; have m_f5 := blk_frozen M2.out 5; have m_c6 : w2.cell? ⟨g1, 6, none⟩ = some (.int .i64 m.f5) := (blk_cell M2.out 6).trans rfl; have m_f6 := blk_frozen M2.out 6; have m_c7 : w2.cell? ⟨g1, 7, none⟩ = some (.int .i64 m.f6) := (blk_cell M2.out 7).trans rfl; have m_f7 := blk_frozen M2.out 7; have m_c8 : w2.cell? ⟨g1, 8, none⟩ = some (.bool m.f7) := (blk_cell M2.out 8).trans rfl; have m_f8 := blk_frozen M2.out 8; have m_c9 : w2.cell? ⟨g1, 9, none⟩ = some (.slice A8 m.f8.length C8) := (blk_cell M2.out 9).trans rfl; have m_f9 := blk_frozen M2.out 9; have m_c10 : w2.cell? ⟨g1, 10, none⟩ = some (.slice A9 m.f9.length C9) := (blk_cell M2.out 10).trans rfl; have m_f10 := blk_frozen M2.out 10
  by_cases hu : m.f8.length > 50
  · have d1 : decide (50 < (m.f8.length : Int)) = true := decide_eq_true (by omega)
    have d2 : decide (50 < m.f8.length) = true := decide_eq_true hu
    have d3 : (50 < m.f8.length) = True := eq_true hu
    clear hu
    go_wp2_with fail
    go_ret
    exact ⟨rfl, B2.out⟩
  have u1 : decide (50 < (m.f8.length : Int)) = false := decide_eq_false (by omega)
  have u2 : decide (50 < m.f8.length) = false := decide_eq_false hu
  have u3 : (50 < m.f8.length) = False := eq_false hu
  by_cases hv : m.f9.length > 8
  · have d1 : decide (8 < (m.f9.length : Int)) = true := decide_eq_true (by omega)
    have d2 : decide (8 < m.f9.length) = true := decide_eq_true hv
    have d3 : (8 < m.f9.length) = True := eq_true hv
    clear hv
    go_wp2_with fail
    go_ret
    exact ⟨rfl, B2.out⟩
  have v1 : decide (8 < (m.f9.length : Int)) = false := decide_eq_false (by omega)
  have v2 : decide (8 < m.f9.length) = false := decide_eq_false hv
  have v3 : (8 < m.f9.length) = False := eq_false hv
  clear hu hv
  go_wp2_with fail
  refine (msg_Write (m := m) (A0 := none) (c0 := 0) (l0 := []) (A8 := A8) (C8 := C8) (A9 := A9) (C9 := C9) (Kd.C_nil _ _) (Nat.le_refl _) (by simp) (Kd.C_below R8.out B2.out) hc8 (Kd.C_below R9.out B2.out) hc9 HW.out N8.out N9.out).mono ?_
  intro x w3 hQ
  obtain ⟨hB, h⟩ := hQ
  have B3 := Aside0.mk (below_step B2.out hB); have M3 := Aside0.mk (blk_below M2.out hB); have S3 := Aside0.mk hB.size
  clear m_c0 m_f0 m_c1 m_f1 m_c2 m_f2 m_c3 m_f3 m_c4 m_f4 m_c5 m_f5 m_c6 m_f6 m_c7 m_f7 m_c8 m_f8 m_c9 m_f9 m_c10 m_f10 hB u1 u2 u3 v1 v2 v3
  rcases h with ⟨rfl, hne⟩ | ⟨v, rfl, hO, hc0⟩
  · have z1 : (wcode m != 0) = true := bne_iff_ne.mpr hne
    clear hne
    go_wp2_with fail
    go_ret
    exact ⟨rfl, B3.out⟩
  rw [List.nil_append] at hO
  obtain ⟨L, hL⟩ : ∃ L, L = body m := ⟨_, rfl⟩
  have hRB := read_body hc0 HW.out
  have hbf := body_fits hc0 HW.out
  have hbp := body_pos m
  have hby := body_bytes m
  rw [← hL] at hO hRB hbf hbp hby
  obtain ⟨gb, cb, rfl, hgb, hgl, -⟩ := Kd.R_form hO hbp
  have C3 := Aside0.mk (Kd.R_reads' hO).2
  have O3 := Aside0.mk hO; have HC := Aside0.mk hc0; have RB := Aside0.mk hRB; have HL := Aside0.mk (show 0 < L.length ∧ L.length ≤ 41500 from ⟨hbp, hbf⟩); have BY := Aside0.mk hby; have GB := Aside0.mk hgb; have GL := Aside0.mk hgl
  clear hO hRB hbf hbp hby hL hc0 hgb hgl
  go_wp2_with fail
  refine (msg_Read C3.out.2 C3.out.1 (by have := HL.out; omega) BY.out).mono ?_
  intro x w4 hR
  obtain ⟨hB2, v8, v9, hx, hO8, hO9⟩ := hR
  rw [RB.out] at hx hO8 hO9
  obtain ⟨A1, c1, e8⟩ := Kd.R_slice hO8
  obtain ⟨A2, c2, e9⟩ := Kd.R_slice hO9
  subst e8 e9 hx
  obtain ⟨gn, hgn, hAm⟩ := amts_of hO8 hB2.size
  have B4 := Aside0.mk (below_step B3.out hB2); have M4 := Aside0.mk (blk_below M3.out hB2); have O4 := Aside0.mk (Kd.R_below O3.out hB2); have GN := Aside0.mk hgn; have AM := Aside0.mk hAm; have S4 := Aside0.mk hB2.size
  clear hB2 hO8 hO9 hgn hAm
  dsimp only
  go_wp2_with (first | ((with_reducible refine gate_dst (N := 5) rfl ?_); refine box_event ?hg (N := 5) ?hd (cs := #[.int .i64 0, .int .i64 0, .int .i64 0, .int .i64 0, .int .i64 0, .int .i64 0, .int .i64 0, .int .i64 0, .bool false, .slice none 0 0, .slice none 0 0]) (t := 28) ?hr ?_; (case hd => rfl); (case hg => rfl); (case hr => first | (go_simp; done) | (go_simp; rfl)); intro g5 hg w5m hbox hb; have ZB := Aside0.mk hb; have ZX := Aside0.mk hbox; have X5g := Aside0.mk (show w4.heap.size ≤ g5 from by rw [hg]; exact Nat.le_refl _); have x_zc0 : w5m.cell? ⟨g5, 0, none⟩ = some (.int .i64 0) := (blk_cell ZX.out 0).trans rfl; have x_zf0 := blk_frozen ZX.out 0; have x_zc1 : w5m.cell? ⟨g5, 1, none⟩ = some (.int .i64 0) := (blk_cell ZX.out 1).trans rfl; have x_zf1 := blk_frozen ZX.out 1; have x_zc2 : w5m.cell? ⟨g5, 2, none⟩ = some (.int .i64 0) := (blk_cell ZX.out 2).trans rfl; have x_zf2 := blk_frozen ZX.out 2; have x_zc3 : w5m.cell? ⟨g5, 3, none⟩ = some (.int .i64 0) := (blk_cell ZX.out 3).trans rfl; have x_zf3 := blk_frozen ZX.out 3; have x_zc4 : w5m.cell? ⟨g5, 4, none⟩ = some (.int .i64 0) := (blk_cell ZX.out 4).trans rfl; have x_zf4 := blk_frozen ZX.out 4; have x_zc5 : w5m.cell? ⟨g5, 5, none⟩ = some (.int .i64 0) := (blk_cell ZX.out 5).trans rfl; have x_zf5 := blk_frozen ZX.out 5; have x_zc6 : w5m.cell? ⟨g5, 6, none⟩ = some (.int .i64 0) := (blk_cell ZX.out 6).trans rfl; have x_zf6 := blk_frozen ZX.out 6; have x_zc7 : w5m.cell? ⟨g5, 7, none⟩ = some (.int .i64 0) := (blk_cell ZX.out 7).trans rfl; have x_zf7 := blk_frozen ZX.out 7; have x_zc8 : w5m.cell? ⟨g5, 8, none⟩ = some (.bool false) := (blk_cell ZX.out 8).trans rfl; have x_zf8 := blk_frozen ZX.out 8; have x_zc9 : w5m.cell? ⟨g5, 9, none⟩ = some (.slice none 0 0) := (blk_cell ZX.out 9).trans rfl; have x_zf9 := blk_frozen ZX.out 9; have x_zc10 : w5m.cell? ⟨g5, 10, none⟩ = some (.slice none 0 0) := (blk_cell ZX.out 10).trans rfl; have x_zf10 := blk_frozen ZX.out 10; clear hb hg hbox) | ((with_reducible refine gate_dst (N := 37) rfl ?_); have NB5 := Aside0.mk (below_setB (below_setB (below_setB (below_setB (below_setB (below_setB (below_setB (below_setB (below_setB (below_setB (below_setB ZB.out (p := ⟨g5, 0, none⟩) X5g.out (.int .i64 m.f0)) (p := ⟨g5, 1, none⟩) X5g.out (.int .i64 m.f1.f0)) (p := ⟨g5, 2, none⟩) X5g.out (.int .i64 m.f1.f1)) (p := ⟨g5, 3, none⟩) X5g.out (.int .i64 m.f2)) (p := ⟨g5, 4, none⟩) X5g.out (.int .i64 m.f3)) (p := ⟨g5, 5, none⟩) X5g.out (.int .i64 m.f4)) (p := ⟨g5, 6, none⟩) X5g.out (.int .i64 m.f5)) (p := ⟨g5, 7, none⟩) X5g.out (.int .i64 m.f6)) (p := ⟨g5, 8, none⟩) X5g.out (.bool m.f7)) (p := ⟨g5, 9, none⟩) X5g.out (.slice A1 m.f8.length c1)) (p := ⟨g5, 10, none⟩) X5g.out (.slice A2 m.f9.length c2)); have X5 := Aside0.mk (blk_put (blk_put (blk_put (blk_put (blk_put (blk_put (blk_put (blk_put (blk_put (blk_put (blk_put ZX.out 0 (.int .i64 m.f0) (cs' := #[.int .i64 m.f0, .int .i64 0, .int .i64 0, .int .i64 0, .int .i64 0, .int .i64 0, .int .i64 0, .int .i64 0, .bool false, .slice none 0 0, .slice none 0 0]) rfl) 1 (.int .i64 m.f1.f0) (cs' := #[.int .i64 m.f0, .int .i64 m.f1.f0, .int .i64 0, .int .i64 0, .int .i64 0, .int .i64 0, .int .i64 0, .int .i64 0, .bool false, .slice none 0 0, .slice none 0 0]) rfl) 2 (.int .i64 m.f1.f1) (cs' := #[.int .i64 m.f0, .int .i64 m.f1.f0, .int .i64 m.f1.f1, .int .i64 0, .int .i64 0, .int .i64 0, .int .i64 0, .int .i64 0, .bool false, .slice none 0 0, .slice none 0 0]) rfl) 3 (.int .i64 m.f2) (cs' := #[.int .i64 m.f0, .int .i64 m.f1.f0, .int .i64 m.f1.f1, .int .i64 m.f2, .int .i64 0, .int .i64 0, .int .i64 0, .int .i64 0, .bool false, .slice none 0 0, .slice none 0 0]) rfl) 4 (.int .i64 m.f3) (cs' := #[.int .i64 m.f0, .int .i64 m.f1.f0, .int .i64 m.f1.f1, .int .i64 m.f2, .int .i64 m.f3, .int .i64 0, .int .i64 0, .int .i64 0, .bool false, .slice none 0 0, .slice none 0 0]) rfl) 5 (.int .i64 m.f4) (cs' := #[.int .i64 m.f0, .int .i64 m.f1.f0, .int .i64 m.f1.f1, .int .i64 m.f2, .int .i64 m.f3, .int .i64 m.f4, .int .i64 0, .int .i64 0, .bool false, .slice none 0 0, .slice none 0 0]) rfl) 6 (.int .i64 m.f5) (cs' := #[.int .i64 m.f0, .int .i64 m.f1.f0, .int .i64 m.f1.f1, .int .i64 m.f2, .int .i64 m.f3, .int .i64 m.f4, .int .i64 m.f5, .int .i64 0, .bool false, .slice none 0 0, .slice none 0 0]) rfl) 7 (.int .i64 m.f6) (cs' := #[.int .i64 m.f0, .int .i64 m.f1.f0, .int .i64 m.f1.f1, .int .i64 m.f2, .int .i64 m.f3, .int .i64 m.f4, .int .i64 m.f5, .int .i64 m.f6, .bool false, .slice none 0 0, .slice none 0 0]) rfl) 8 (.bool m.f7) (cs' := #[.int .i64 m.f0, .int .i64 m.f1.f0, .int .i64 m.f1.f1, .int .i64 m.f2, .int .i64 m.f3, .int .i64 m.f4, .int .i64 m.f5, .int .i64 m.f6, .bool m.f7, .slice none 0 0, .slice none 0 0]) rfl) 9 (.slice A1 m.f8.length c1) (cs' := #[.int .i64 m.f0, .int .i64 m.f1.f0, .int .i64 m.f1.f1, .int .i64 m.f2, .int .i64 m.f3, .int .i64 m.f4, .int .i64 m.f5, .int .i64 m.f6, .bool m.f7, .slice A1 m.f8.length c1, .slice none 0 0]) rfl) 10 (.slice A2 m.f9.length c2) (cs' := #[.int .i64 m.f0, .int .i64 m.f1.f0, .int .i64 m.f1.f1, .int .i64 m.f2, .int .i64 m.f3, .int .i64 m.f4, .int .i64 m.f5, .int .i64 m.f6, .bool m.f7, .slice A1 m.f8.length c1, .slice A2 m.f9.length c2]) rfl); clear ZB ZX x_zc0 x_zf0 x_zc1 x_zf1 x_zc2 x_zf2 x_zc3 x_zf3 x_zc4 x_zf4 x_zc5 x_zf5 x_zc6 x_zf6 x_zc7 x_zf7 x_zc8 x_zf8 x_zc9 x_zf9 x_zc10 x_zf10; generalize (((((((((((w5m.setCell ⟨g5, 0, none⟩ (.int .i64 m.f0)).setCell ⟨g5, 1, none⟩ (.int .i64 m.f1.f0)).setCell ⟨g5, 2, none⟩ (.int .i64 m.f1.f1)).setCell ⟨g5, 3, none⟩ (.int .i64 m.f2)).setCell ⟨g5, 4, none⟩ (.int .i64 m.f3)).setCell ⟨g5, 5, none⟩ (.int .i64 m.f4)).setCell ⟨g5, 6, none⟩ (.int .i64 m.f5)).setCell ⟨g5, 7, none⟩ (.int .i64 m.f6)).setCell ⟨g5, 8, none⟩ (.bool m.f7)).setCell ⟨g5, 9, none⟩ (.slice A1 m.f8.length c1)).setCell ⟨g5, 10, none⟩ (.slice A2 m.f9.length c2)) = w5 at NB5 X5 ⊢; have B5 := Aside0.mk (below_step B4.out NB5.out); have M5 := Aside0.mk (blk_below M4.out NB5.out); have O5 := Aside0.mk (Kd.R_below O4.out NB5.out); ))
  go_loopg [38] (L.length + 1) (fun kq v38 w' => ∃ (xs : List Int) (i : Int), v38 = .int .i64 i ∧ Aside0 (0 ≤ i ∧ i + (kq : Int) = (L.length : Int) + 1) ∧ Aside0 (xs.length = L.length) ∧ Aside0 (Kd.R (Kd.int .u8) 5 w' w2.heap.size (fun _ => True) (.slice (some ⟨gb, 0, none⟩) L.length cb) xs) ∧ Aside0 (Kept w5 w' (fun k => k = gb)) ∧ Aside0 (Below w.heap.size w w'))
  case atStart => exact ⟨L, 0, rfl, ⟨⟨by omega, by omega⟩⟩, ⟨rfl⟩, ⟨O5.out⟩, ⟨Kept.refl _ _⟩, ⟨B5.out⟩⟩
  case round =>
    obtain ⟨xs, i, rfl, HI, HX, HO, HK, HBw⟩ := hrel
    by_cases hi : i < (L.length : Int)
    · have d1 : decide (i < (L.length : Int)) = true := decide_eq_true hi
      have hi0 : 0 ≤ i := HI.out.1
      obtain ⟨hx, hf⟩ := Kd.R_celln 0 HO.out i hi0 hi
      have hP := Aside0.mk (Kd.R_putg HO.out i ((rd xs i + 1) % 256))
      have b2 : wrap64 (i + 1) = i + 1 := by have := HL.out; unfold wrap64; omega
      have q1 := eq_true hi0
      have q2 := eq_true hi
      have q3 : decide (0 ≤ i) = true := decide_eq_true hi0
      have NK := Aside0.mk (show i + 1 + ((gk - 1 : Nat) : Int) = (L.length : Int) + 1 ∧ 0 < gk by have := HI.out.2; omega)
      have hB9 := Aside0.mk (below_set HBw.out (Nat.le_trans B2.out.size GB.out) : Below w.heap.size w (wr.setCell ⟨gb, (i : Int).toNat, none⟩ (.int .u8 ((rd xs i + 1) % 256))))
      have hK9 := Aside0.mk (kept_set HK.out (i : Int).toNat (.int .u8 ((rd xs i + 1) % 256)))
      go_wp2_with fail
      go_roundg (gk - 1)
      case measure => have := NK.out.2; omega
      case rel => exact ⟨xs.set (i : Int).toNat ((rd xs i + 1) % 256), wrap64 (i + 1), rfl, ⟨by rw [b2]; have := HI.out.1; omega, by rw [b2]; exact NK.out.1⟩, ⟨by rw [List.length_set]; exact HX.out⟩, ⟨hP.out.1⟩, hK9, hB9⟩
    · have d1 : decide (i < (L.length : Int)) = false := decide_eq_false hi
      clear hi
      have NE := Aside0.mk (ne7_ G1.out S2.out GB.out GL.out GN.out X5g.out S4.out)
      have M6 := Aside0.mk ((HK.out.2 g1 (blk_lt M5.out) (Nat.ne_of_lt NE.out.1)).trans M5.out)
      have X6 := Aside0.mk ((HK.out.2 g5 (blk_lt X5.out) (Nat.ne_of_gt NE.out.2.2)).trans X5.out)
      have A6 := Aside0.mk (show m.f8.length = 0 ∨ (A1 = some ⟨gn, 0, none⟩ ∧ Amts wr gn m.f8.length ∧ gn < g5) from by
        rcases AM.out with h | ⟨h1, h2⟩
        · exact .inl h
        · have e1 : w5.heap[gn]? = w4.heap[gn]? := NB5.out.block gn h2.lt
          have e2 : wr.heap[gn]? = w5.heap[gn]? := HK.out.2 gn (Nat.lt_of_lt_of_le h2.lt NB5.out.size) (Nat.ne_of_gt NE.out.2.1)
          exact .inr ⟨h1, h2.of (e2.trans e1), Nat.lt_of_lt_of_le h2.lt X5g.out⟩)
      have B6 := Aside0.mk HBw.out
      clear HI HX HO HK HBw M5 X5 B5 O5 NB5
      generalize wr = w6 at M6 X6 A6 B6 ⊢
      have xc9 : w6.cell? ⟨g5, 9, none⟩ = some (.slice A1 m.f8.length c1) := (blk_cell X6.out 9).trans rfl; have xf9 := blk_frozen X6.out 9
      go_wp2_with fail
      go_loopg [51] (m.f8.length + 1) (fun kq v51 w' => ∃ (i : Nat), v51 = .int .i64 (i : Int) ∧ Aside0 (i ≤ m.f8.length ∧ i + kq = m.f8.length + 1) ∧ Aside0 (m.f8.length = 0 ∨ (A1 = some ⟨gn, 0, none⟩ ∧ Amts w' gn m.f8.length ∧ gn < g5)) ∧ Aside0 (Kept w6 w' (fun k => k = gn)) ∧ Aside0 (Below w.heap.size w w'))
      case atStart => exact ⟨0, rfl, ⟨by omega, by omega⟩, ⟨A6.out⟩, ⟨Kept.refl _ _⟩, ⟨B6.out⟩⟩
      case round =>
        obtain ⟨i, rfl, HI, HA, HK, HBw⟩ := hrel
        by_cases hi : i < m.f8.length
        · have d1 : decide ((i : Int) < (m.f8.length : Int)) = true := decide_eq_true (by omega)
          have d2 : decide (i < m.f8.length) = true := decide_eq_true hi
          have d3 : (i < m.f8.length) = True := eq_true hi
          have hi0 : (0 : Int) ≤ (i : Int) := by omega
          have hi1 : (i : Int) < (m.f8.length : Int) := by omega
          obtain ⟨e1, ham, hg5⟩ : A1 = some ⟨gn, 0, none⟩ ∧ Amts wr gn m.f8.length ∧ gn < g5 := by
            rcases HA.out with h | h
            · exact absurd hi (by omega)
            · exact h
          subst e1
          obtain ⟨x, hx, hf⟩ := ham.cell hi
          have X7 := Aside0.mk ((HK.out.2 g5 (blk_lt X6.out) (Nat.ne_of_gt hg5)).trans X6.out)
          have yc9 : wr.cell? ⟨g5, 9, none⟩ = some (.slice (some ⟨gn, 0, none⟩) m.f8.length c1) := (blk_cell X7.out 9).trans rfl
          have yf9 := blk_frozen X7.out 9
          have b2 : wrap64 ((i : Int) + 1) = ((i + 1 : Nat) : Int) := by have := N8.out; unfold wrap64; omega
          have q1 := eq_true hi0
          have q2 := eq_true hi1
          have q3 : decide ((0 : Int) ≤ (i : Int)) = true := decide_eq_true hi0
          have NK := Aside0.mk (nk2_ hi HI.out.2)
          have hA9 := Aside0.mk (ham.put (i * 4 + 3) (wrap64 (x + 1)))
          have hB9 := Aside0.mk (below_set HBw.out (Nat.le_trans B3.out.size GN.out) : Below w.heap.size w (wr.setCell ⟨gn, i * 4 + 3, none⟩ (.int .i64 (wrap64 (x + 1)))))
          have hK9 := Aside0.mk (kept_set HK.out (i * 4 + 3) (.int .i64 (wrap64 (x + 1))))
          have hG9 := Aside0.mk hg5
          have ea : (⟨gn, 0, none⟩ : Addr).add (i * 4) = ⟨gn, i * 4, none⟩ := by
            rcases Nat.eq_zero_or_pos i with rfl | hp
            · rfl
            · have hz : i * 4 ≠ 0 := by omega
              simp [Addr.add, hz]
          clear hi ham hg5
          go_wp2_with fail
          go_roundg (gk - 1)
          case measure => have := NK.out.2; omega
          case rel => exact ⟨i + 1, by (first | rw [b2] | rfl | (congr 1; done) | (congr 1; omega)), ⟨NK.out.1⟩, ⟨.inr ⟨by (first | rfl | trivial), hA9.out, hG9.out⟩⟩, hK9, hB9⟩
        · have d1 : decide ((i : Int) < (m.f8.length : Int)) = false := decide_eq_false (by omega)
          have d2 : decide (i < m.f8.length) = false := decide_eq_false hi
          have d3 : (i < m.f8.length) = False := eq_false hi
          clear hi
          have M7 := Aside0.mk ((HK.out.2 g1 (blk_lt M6.out) (Nat.ne_of_lt (Nat.lt_trans NE.out.1 NE.out.2.1))).trans M6.out)
          have B7 := Aside0.mk HBw.out
          clear HI HA HK HBw M6 X6 A6 B6 xc9 xf9
          generalize wr = w7 at M7 B7 ⊢
          have m_c0 : w7.cell? ⟨g1, 0, none⟩ = some (.int .i64 m.f0) := (blk_cell M7.out 0).trans rfl; have m_f0 := blk_frozen M7.out 0; have m_c1 : w7.cell? ⟨g1, 1, none⟩ = some (.int .i64 m.f1.f0) := (blk_cell M7.out 1).trans rfl; have m_f1 := blk_frozen M7.out 1; have m_c2 : w7.cell? ⟨g1, 2, none⟩ = some (.int .i64 m.f1.f1) := (blk_cell M7.out 2).trans rfl; have m_f2 := blk_frozen M7.out 2; have m_c3 : w7.cell? ⟨g1, 3, none⟩ = some (.int .i64 m.f2) := (blk_cell M7.out 3).trans rfl; have m_f3 := blk_frozen M7.out 3; have m_c4 : w7.cell? ⟨g1, 4, none⟩ = some (.int .i64 m.f3) := (blk_cell M7.out 4).trans rfl; have m_f4 := blk_frozen M7.out 4; have m_c5 : w7.cell? ⟨g1, 5, none⟩ = some (.int .i64 m.f4) := (blk_cell M7.out 5).trans rfl; have m_f5 := blk_frozen M7.out 5; have m_c6 : w7.cell? ⟨g1, 6, none⟩ = some (.int .i64 m.f5) := (blk_cell M7.out 6).trans rfl; have m_f6 := blk_frozen M7.out 6; have m_c7 : w7.cell? ⟨g1, 7, none⟩ = some (.int .i64 m.f6) := (blk_cell M7.out 7).trans rfl; have m_f7 := blk_frozen M7.out 7; have m_c8 : w7.cell? ⟨g1, 8, none⟩ = some (.bool m.f7) := (blk_cell M7.out 8).trans rfl; have m_f8 := blk_frozen M7.out 8; have m_c9 : w7.cell? ⟨g1, 9, none⟩ = some (.slice A8 m.f8.length C8) := (blk_cell M7.out 9).trans rfl; have m_f9 := blk_frozen M7.out 9; have m_c10 : w7.cell? ⟨g1, 10, none⟩ = some (.slice A9 m.f9.length C9) := (blk_cell M7.out 10).trans rfl; have m_f10 := blk_frozen M7.out 10
          go_wp2_with fail
          refine (msg_Write (m := m) (A0 := none) (c0 := 0) (l0 := []) (A8 := A8) (C8 := C8) (A9 := A9) (C9 := C9) (Kd.C_nil _ _) (Nat.le_refl _) (by simp) (Kd.C_below R8.out B7.out) hc8 (Kd.C_below R9.out B7.out) hc9 HW.out N8.out N9.out).mono ?_
          intro x w8 hQ
          obtain ⟨hB, h⟩ := hQ
          have B8 := Aside0.mk (below_step B7.out hB); have M8 := Aside0.mk (blk_below M7.out hB)
          clear hB m_c0 m_f0 m_c1 m_f1 m_c2 m_f2 m_c3 m_f3 m_c4 m_f4 m_c5 m_f5 m_c6 m_f6 m_c7 m_f7 m_c8 m_f8 m_c9 m_f9 m_c10 m_f10
          rcases h with ⟨-, hne⟩ | ⟨v, rfl, hO, hc0⟩
          · exact absurd HC.out hne
          rw [List.nil_append] at hO
          have hRB := read_body hc0 HW.out
          have hbf := body_fits hc0 HW.out
          obtain ⟨A7, c7, e7, hc7, hC7⟩ := Kd.R_reads hO
          subst e7
          have C8_ := Aside0.mk hC7; have L8 := Aside0.mk hc7; have RB2 := Aside0.mk hRB; have HL2 := Aside0.mk hbf
          clear hO hRB hbf hC7 hc7 hc0
          go_wp2_with fail
          refine (msg_Read C8_.out L8.out (Nat.le_trans HL2.out (by decide)) (body_bytes m)).mono ?_
          intro x w9 hR
          obtain ⟨hB2, v8, v9, hx, hO8, hO9⟩ := hR
          rw [RB2.out] at hx hO8 hO9
          obtain ⟨A3, c3, e8, hl8, hC8⟩ := Kd.R_reads hO8
          obtain ⟨A4, c4, e9, hl9, hC9⟩ := Kd.R_reads hO9
          subst e8 e9 hx
          have B9 := Aside0.mk (below_step B8.out hB2); have M9 := Aside0.mk (blk_below M8.out hB2); have E8 := Aside0.mk hC8; have E9 := Aside0.mk hC9
          clear hB2 hO8 hO9 hl8 hl9 hC8 hC9
          dsimp only
          go_wp2_with (first | ((with_reducible refine gate_dst (N := 10) rfl ?_); refine box_event ?hg (N := 10) ?hd (cs := #[.int .i64 0, .int .i64 0, .int .i64 0, .int .i64 0, .int .i64 0, .int .i64 0, .int .i64 0, .int .i64 0, .bool false, .slice none 0 0, .slice none 0 0]) (t := 28) ?hr ?_; (case hd => rfl); (case hg => rfl); (case hr => first | (go_simp; done) | (go_simp; rfl)); intro g10 hg w10m hbox hb; have ZB := Aside0.mk hb; have ZX := Aside0.mk hbox; have Y10g := Aside0.mk (show w9.heap.size ≤ g10 from by rw [hg]; exact Nat.le_refl _); have y_zc0 : w10m.cell? ⟨g10, 0, none⟩ = some (.int .i64 0) := (blk_cell ZX.out 0).trans rfl; have y_zf0 := blk_frozen ZX.out 0; have y_zc1 : w10m.cell? ⟨g10, 1, none⟩ = some (.int .i64 0) := (blk_cell ZX.out 1).trans rfl; have y_zf1 := blk_frozen ZX.out 1; have y_zc2 : w10m.cell? ⟨g10, 2, none⟩ = some (.int .i64 0) := (blk_cell ZX.out 2).trans rfl; have y_zf2 := blk_frozen ZX.out 2; have y_zc3 : w10m.cell? ⟨g10, 3, none⟩ = some (.int .i64 0) := (blk_cell ZX.out 3).trans rfl; have y_zf3 := blk_frozen ZX.out 3; have y_zc4 : w10m.cell? ⟨g10, 4, none⟩ = some (.int .i64 0) := (blk_cell ZX.out 4).trans rfl; have y_zf4 := blk_frozen ZX.out 4; have y_zc5 : w10m.cell? ⟨g10, 5, none⟩ = some (.int .i64 0) := (blk_cell ZX.out 5).trans rfl; have y_zf5 := blk_frozen ZX.out 5; have y_zc6 : w10m.cell? ⟨g10, 6, none⟩ = some (.int .i64 0) := (blk_cell ZX.out 6).trans rfl; have y_zf6 := blk_frozen ZX.out 6; have y_zc7 : w10m.cell? ⟨g10, 7, none⟩ = some (.int .i64 0) := (blk_cell ZX.out 7).trans rfl; have y_zf7 := blk_frozen ZX.out 7; have y_zc8 : w10m.cell? ⟨g10, 8, none⟩ = some (.bool false) := (blk_cell ZX.out 8).trans rfl; have y_zf8 := blk_frozen ZX.out 8; have y_zc9 : w10m.cell? ⟨g10, 9, none⟩ = some (.slice none 0 0) := (blk_cell ZX.out 9).trans rfl; have y_zf9 := blk_frozen ZX.out 9; have y_zc10 : w10m.cell? ⟨g10, 10, none⟩ = some (.slice none 0 0) := (blk_cell ZX.out 10).trans rfl; have y_zf10 := blk_frozen ZX.out 10; clear hb hg hbox) | ((with_reducible refine gate_dst (N := 75) rfl ?_); have NB10 := Aside0.mk (below_setB (below_setB (below_setB (below_setB (below_setB (below_setB (below_setB (below_setB (below_setB (below_setB (below_setB ZB.out (p := ⟨g10, 0, none⟩) Y10g.out (.int .i64 m.f0)) (p := ⟨g10, 1, none⟩) Y10g.out (.int .i64 m.f1.f0)) (p := ⟨g10, 2, none⟩) Y10g.out (.int .i64 m.f1.f1)) (p := ⟨g10, 3, none⟩) Y10g.out (.int .i64 m.f2)) (p := ⟨g10, 4, none⟩) Y10g.out (.int .i64 m.f3)) (p := ⟨g10, 5, none⟩) Y10g.out (.int .i64 m.f4)) (p := ⟨g10, 6, none⟩) Y10g.out (.int .i64 m.f5)) (p := ⟨g10, 7, none⟩) Y10g.out (.int .i64 m.f6)) (p := ⟨g10, 8, none⟩) Y10g.out (.bool m.f7)) (p := ⟨g10, 9, none⟩) Y10g.out (.slice A3 m.f8.length c3)) (p := ⟨g10, 10, none⟩) Y10g.out (.slice A4 m.f9.length c4)); have Y10 := Aside0.mk (blk_put (blk_put (blk_put (blk_put (blk_put (blk_put (blk_put (blk_put (blk_put (blk_put (blk_put ZX.out 0 (.int .i64 m.f0) (cs' := #[.int .i64 m.f0, .int .i64 0, .int .i64 0, .int .i64 0, .int .i64 0, .int .i64 0, .int .i64 0, .int .i64 0, .bool false, .slice none 0 0, .slice none 0 0]) rfl) 1 (.int .i64 m.f1.f0) (cs' := #[.int .i64 m.f0, .int .i64 m.f1.f0, .int .i64 0, .int .i64 0, .int .i64 0, .int .i64 0, .int .i64 0, .int .i64 0, .bool false, .slice none 0 0, .slice none 0 0]) rfl) 2 (.int .i64 m.f1.f1) (cs' := #[.int .i64 m.f0, .int .i64 m.f1.f0, .int .i64 m.f1.f1, .int .i64 0, .int .i64 0, .int .i64 0, .int .i64 0, .int .i64 0, .bool false, .slice none 0 0, .slice none 0 0]) rfl) 3 (.int .i64 m.f2) (cs' := #[.int .i64 m.f0, .int .i64 m.f1.f0, .int .i64 m.f1.f1, .int .i64 m.f2, .int .i64 0, .int .i64 0, .int .i64 0, .int .i64 0, .bool false, .slice none 0 0, .slice none 0 0]) rfl) 4 (.int .i64 m.f3) (cs' := #[.int .i64 m.f0, .int .i64 m.f1.f0, .int .i64 m.f1.f1, .int .i64 m.f2, .int .i64 m.f3, .int .i64 0, .int .i64 0, .int .i64 0, .bool false, .slice none 0 0, .slice none 0 0]) rfl) 5 (.int .i64 m.f4) (cs' := #[.int .i64 m.f0, .int .i64 m.f1.f0, .int .i64 m.f1.f1, .int .i64 m.f2, .int .i64 m.f3, .int .i64 m.f4, .int .i64 0, .int .i64 0, .bool false, .slice none 0 0, .slice none 0 0]) rfl) 6 (.int .i64 m.f5) (cs' := #[.int .i64 m.f0, .int .i64 m.f1.f0, .int .i64 m.f1.f1, .int .i64 m.f2, .int .i64 m.f3, .int .i64 m.f4, .int .i64 m.f5, .int .i64 0, .bool false, .slice none 0 0, .slice none 0 0]) rfl) 7 (.int .i64 m.f6) (cs' := #[.int .i64 m.f0, .int .i64 m.f1.f0, .int .i64 m.f1.f1, .int .i64 m.f2, .int .i64 m.f3, .int .i64 m.f4, .int .i64 m.f5, .int .i64 m.f6, .bool false, .slice none 0 0, .slice none 0 0]) rfl) 8 (.bool m.f7) (cs' := #[.int .i64 m.f0, .int .i64 m.f1.f0, .int .i64 m.f1.f1, .int .i64 m.f2, .int .i64 m.f3, .int .i64 m.f4, .int .i64 m.f5, .int .i64 m.f6, .bool m.f7, .slice none 0 0, .slice none 0 0]) rfl) 9 (.slice A3 m.f8.length c3) (cs' := #[.int .i64 m.f0, .int .i64 m.f1.f0, .int .i64 m.f1.f1, .int .i64 m.f2, .int .i64 m.f3, .int .i64 m.f4, .int .i64 m.f5, .int .i64 m.f6, .bool m.f7, .slice A3 m.f8.length c3, .slice none 0 0]) rfl) 10 (.slice A4 m.f9.length c4) (cs' := #[.int .i64 m.f0, .int .i64 m.f1.f0, .int .i64 m.f1.f1, .int .i64 m.f2, .int .i64 m.f3, .int .i64 m.f4, .int .i64 m.f5, .int .i64 m.f6, .bool m.f7, .slice A3 m.f8.length c3, .slice A4 m.f9.length c4]) rfl); clear ZB ZX y_zc0 y_zf0 y_zc1 y_zf1 y_zc2 y_zf2 y_zc3 y_zf3 y_zc4 y_zf4 y_zc5 y_zf5 y_zc6 y_zf6 y_zc7 y_zf7 y_zc8 y_zf8 y_zc9 y_zf9 y_zc10 y_zf10; generalize (((((((((((w10m.setCell ⟨g10, 0, none⟩ (.int .i64 m.f0)).setCell ⟨g10, 1, none⟩ (.int .i64 m.f1.f0)).setCell ⟨g10, 2, none⟩ (.int .i64 m.f1.f1)).setCell ⟨g10, 3, none⟩ (.int .i64 m.f2)).setCell ⟨g10, 4, none⟩ (.int .i64 m.f3)).setCell ⟨g10, 5, none⟩ (.int .i64 m.f4)).setCell ⟨g10, 6, none⟩ (.int .i64 m.f5)).setCell ⟨g10, 7, none⟩ (.int .i64 m.f6)).setCell ⟨g10, 8, none⟩ (.bool m.f7)).setCell ⟨g10, 9, none⟩ (.slice A3 m.f8.length c3)).setCell ⟨g10, 10, none⟩ (.slice A4 m.f9.length c4)) = w10 at NB10 Y10 ⊢; have B10 := Aside0.mk (below_step B9.out NB10.out); have M10 := Aside0.mk (blk_below M9.out NB10.out); have m_c0 : w10.cell? ⟨g1, 0, none⟩ = some (.int .i64 m.f0) := (blk_cell M10.out 0).trans rfl; have m_f0 := blk_frozen M10.out 0; have m_c1 : w10.cell? ⟨g1, 1, none⟩ = some (.int .i64 m.f1.f0) := (blk_cell M10.out 1).trans rfl; have m_f1 := blk_frozen M10.out 1; have m_c2 : w10.cell? ⟨g1, 2, none⟩ = some (.int .i64 m.f1.f1) := (blk_cell M10.out 2).trans rfl; have m_f2 := blk_frozen M10.out 2; have m_c3 : w10.cell? ⟨g1, 3, none⟩ = some (.int .i64 m.f2) := (blk_cell M10.out 3).trans rfl; have m_f3 := blk_frozen M10.out 3; have m_c4 : w10.cell? ⟨g1, 4, none⟩ = some (.int .i64 m.f3) := (blk_cell M10.out 4).trans rfl; have m_f4 := blk_frozen M10.out 4; have m_c5 : w10.cell? ⟨g1, 5, none⟩ = some (.int .i64 m.f4) := (blk_cell M10.out 5).trans rfl; have m_f5 := blk_frozen M10.out 5; have m_c6 : w10.cell? ⟨g1, 6, none⟩ = some (.int .i64 m.f5) := (blk_cell M10.out 6).trans rfl; have m_f6 := blk_frozen M10.out 6; have m_c7 : w10.cell? ⟨g1, 7, none⟩ = some (.int .i64 m.f6) := (blk_cell M10.out 7).trans rfl; have m_f7 := blk_frozen M10.out 7; have m_c8 : w10.cell? ⟨g1, 8, none⟩ = some (.bool m.f7) := (blk_cell M10.out 8).trans rfl; have m_f8 := blk_frozen M10.out 8; have m_c9 : w10.cell? ⟨g1, 9, none⟩ = some (.slice A8 m.f8.length C8) := (blk_cell M10.out 9).trans rfl; have m_f9 := blk_frozen M10.out 9; have m_c10 : w10.cell? ⟨g1, 10, none⟩ = some (.slice A9 m.f9.length C9) := (blk_cell M10.out 10).trans rfl; have m_f10 := blk_frozen M10.out 10; have y_c0 : w10.cell? ⟨g10, 0, none⟩ = some (.int .i64 m.f0) := (blk_cell Y10.out 0).trans rfl; have y_f0 := blk_frozen Y10.out 0; have y_c1 : w10.cell? ⟨g10, 1, none⟩ = some (.int .i64 m.f1.f0) := (blk_cell Y10.out 1).trans rfl; have y_f1 := blk_frozen Y10.out 1; have y_c2 : w10.cell? ⟨g10, 2, none⟩ = some (.int .i64 m.f1.f1) := (blk_cell Y10.out 2).trans rfl; have y_f2 := blk_frozen Y10.out 2; have y_c3 : w10.cell? ⟨g10, 3, none⟩ = some (.int .i64 m.f2) := (blk_cell Y10.out 3).trans rfl; have y_f3 := blk_frozen Y10.out 3; have y_c4 : w10.cell? ⟨g10, 4, none⟩ = some (.int .i64 m.f3) := (blk_cell Y10.out 4).trans rfl; have y_f4 := blk_frozen Y10.out 4; have y_c5 : w10.cell? ⟨g10, 5, none⟩ = some (.int .i64 m.f4) := (blk_cell Y10.out 5).trans rfl; have y_f5 := blk_frozen Y10.out 5; have y_c6 : w10.cell? ⟨g10, 6, none⟩ = some (.int .i64 m.f5) := (blk_cell Y10.out 6).trans rfl; have y_f6 := blk_frozen Y10.out 6; have y_c7 : w10.cell? ⟨g10, 7, none⟩ = some (.int .i64 m.f6) := (blk_cell Y10.out 7).trans rfl; have y_f7 := blk_frozen Y10.out 7; have y_c8 : w10.cell? ⟨g10, 8, none⟩ = some (.bool m.f7) := (blk_cell Y10.out 8).trans rfl; have y_f8 := blk_frozen Y10.out 8; have y_c9 : w10.cell? ⟨g10, 9, none⟩ = some (.slice A3 m.f8.length c3) := (blk_cell Y10.out 9).trans rfl; have y_f9 := blk_frozen Y10.out 9; have y_c10 : w10.cell? ⟨g10, 10, none⟩ = some (.slice A4 m.f9.length c4) := (blk_cell Y10.out 10).trans rfl; have y_f10 := blk_frozen Y10.out 10))
          refine (same_calls (m := m) (w := w10) (Kd.C_below E8.out NB10.out) (Kd.C_below E9.out NB10.out) (Kd.C_below R8.out B10.out) (Kd.C_below R9.out B10.out) N8.out N9.out).mono ?_; rintro x w11 ⟨rfl, hb⟩; have B11 := Aside0.mk (below_step B10.out hb); clear hb
          go_wp2_with fail
          go_ret
          exact ⟨rfl, B11.out⟩
theorem MsgOwn_hand (m0 m1 m2 m3 m4 m5 m6 m7 : Int) (m8 : Bool) (A8 : Option Addr) (C8 : Nat) (l8 : List S50) (A9 : Option Addr) (C9 : Nat) (l9 : List Int) (w : World)
    (hr8 : Kd.C k50 w A8 l8.length l8) (hc8 : l8.length ≤ C8) (hr9 : Kd.C (Kd.int .i64) w A9 l9.length l9) (hc9 : l9.length ≤ C9)
    (g0 : G28 ⟨m0, ⟨m1, m2⟩, m3, m4, m5, m6, m7, m8, l8, l9⟩) :
    Calls Try.prog 6 #[.agg #[.int .i64 m0, .int .i64 m1, .int .i64 m2, .int .i64 m3, .int .i64 m4, .int .i64 m5, .int .i64 m6, .int .i64 m7, .bool m8, .slice A8 l8.length C8, .slice A9 l9.length C9]] w fun e w' => e = .returned (.bool true) ∧ Below w.heap.size w w' :=
  MsgOwn_walk ⟨m0, ⟨m1, m2⟩, m3, m4, m5, m6, m7, m8, l8, l9⟩ A8 C8 A9 C9 w hr8 hc8 hr9 hc9 (wide_of g0)
    (by have := g0.2.2.2.2.2.2.2.2.1.1; simp only at this ⊢; omega) (by have := g0.2.2.2.2.2.2.2.2.2.1; simp only at this ⊢; omega)
end Go.Proofs.Ytgmfafmefafiiaa.Pure
