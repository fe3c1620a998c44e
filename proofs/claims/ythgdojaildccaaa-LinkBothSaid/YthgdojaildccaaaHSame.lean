/-
  contraref11.Same: messages that are alike are the same.
-/
import Derived.Test.YthgdojaildccaaaMx2
import Derived.Test.YthgdojaildccaaaPOpen
namespace Go.Proofs.Ythgdojaildccaaa.M
open Go.RowKit Go.Proofs.YthgdojaildccaaaW.PrintWords Go.Proofs.YthgdojaildccaaaW.PrintLast Go.Proofs.YthgdojaildccaaaW.PrintMore
set_option linter.unusedVariables false
set_option linter.unusedSimpArgs false
theorem below_drewN_ {B : Nat} {a w : World} (h : Below B a w) (n : Nat) : Below B a (w.drewN n) := ⟨h.os, h.tape, h.output, h.size, h.block⟩
theorem nk2_ {i n gk : Nat} (hi : i < n) (h : i + gk = n + 1) : (i + 1 ≤ n ∧ i + 1 + (gk - 1) = n + 1) ∧ 0 < gk := by omega
attribute [local go_sem high] eqA31 eqA47
set_option maxHeartbeats 8000000 in
set_option maxRecDepth 100000 in
theorem same_calls {m : S35} {A8 : Option Addr} {C8 : Nat} {A9 : Option Addr} {C9 : Nat} {B8 : Option Addr} {D8 : Nat} {B9 : Option Addr} {D9 : Nat} {w : World}
    (h8 : Kd.C k47 w A8 m.f8.length m.f8) (h9 : Kd.C (Kd.int .i64) w A9 m.f9.length m.f9) (k8 : Kd.C k47 w B8 m.f8.length m.f8) (k9 : Kd.C (Kd.int .i64) w B9 m.f9.length m.f9) (hb8 : m.f8.length ≤ 4611686018427387904) (hb9 : m.f9.length ≤ 4611686018427387904) :
    Calls Try.prog 24 #[.agg #[.int .i64 m.f0, .int .i64 m.f1.f0, .int .i64 m.f1.f1, .int .i64 m.f2, .int .i64 m.f3, .int .i64 m.f4, .int .i64 m.f5, .int .i64 m.f6, .bool m.f7, .slice A8 m.f8.length C8, .slice A9 m.f9.length C9], .agg #[.int .i64 m.f0, .int .i64 m.f1.f0, .int .i64 m.f1.f1, .int .i64 m.f2, .int .i64 m.f3, .int .i64 m.f4, .int .i64 m.f5, .int .i64 m.f6, .bool m.f7, .slice B8 m.f8.length D8, .slice B9 m.f9.length D9]] w fun e w' => e = .returned (.bool true) ∧ Below w.heap.size w w' := by
  have B0 := Aside0.mk (Below.refl w.heap.size w)
  have H8 := Aside0.mk h8; have H9 := Aside0.mk h9; have K8 := Aside0.mk k8; have K9 := Aside0.mk k9; have HB8 := Aside0.mk hb8; have HB9 := Aside0.mk hb9
  clear h8 h9 k8 k9 hb8 hb9
  go_enter Try.func24, Try.ntmps24
  go_wp2_with (first | ((with_reducible refine gate_dst (N := 2) rfl ?_); refine box_event ?hg (N := 2) ?hd (cs := #[.int .i64 m.f0, .int .i64 m.f1.f0, .int .i64 m.f1.f1, .int .i64 m.f2, .int .i64 m.f3, .int .i64 m.f4, .int .i64 m.f5, .int .i64 m.f6, .bool m.f7, .slice A8 m.f8.length C8, .slice A9 m.f9.length C9]) (t := 35) ?hr ?_; (case hd => rfl); (case hg => rfl); (case hr => first | (go_simp; done) | (go_simp; rfl)); intro g2 hg w1 hbox hb; have B1 := Aside0.mk (below_step B0.out hb); have P1 := Aside0.mk hbox; clear hb hg hbox) | ((with_reducible refine gate_dst (N := 3) rfl ?_); refine box_event ?hg (N := 3) ?hd (cs := #[.int .i64 m.f0, .int .i64 m.f1.f0, .int .i64 m.f1.f1, .int .i64 m.f2, .int .i64 m.f3, .int .i64 m.f4, .int .i64 m.f5, .int .i64 m.f6, .bool m.f7, .slice B8 m.f8.length D8, .slice B9 m.f9.length D9]) (t := 35) ?hr ?_; (case hd => rfl); (case hg => rfl); (case hr => first | (go_simp; done) | (go_simp; rfl)); intro g3 hg w2 hbox hb; have B2 := Aside0.mk (below_step B1.out hb); have P2 := Aside0.mk (blk_below P1.out hb); have Q2 := Aside0.mk hbox; clear P1 B1; have xc0 : w2.cell? ⟨g2, 0, none⟩ = some (.int .i64 m.f0) := (blk_cell P2.out 0).trans rfl; have xf0 := blk_frozen P2.out 0; have xc1 : w2.cell? ⟨g2, 1, none⟩ = some (.int .i64 m.f1.f0) := (blk_cell P2.out 1).trans rfl; have xf1 := blk_frozen P2.out 1; have xc2 : w2.cell? ⟨g2, 2, none⟩ = some (.int .i64 m.f1.f1) := (blk_cell P2.out 2).trans rfl; have xf2 := blk_frozen P2.out 2; have xc3 : w2.cell? ⟨g2, 3, none⟩ = some (.int .i64 m.f2) := (blk_cell P2.out 3).trans rfl; have xf3 := blk_frozen P2.out 3; have xc4 : w2.cell? ⟨g2, 4, none⟩ = some (.int .i64 m.f3) := (blk_cell P2.out 4).trans rfl; have xf4 := blk_frozen P2.out 4; have xc5 : w2.cell? ⟨g2, 5, none⟩ = some (.int .i64 m.f4) := (blk_cell P2.out 5).trans rfl; have xf5 := blk_frozen P2.out 5; have xc6 : w2.cell? ⟨g2, 6, none⟩ = some (.int .i64 m.f5) := (blk_cell P2.out 6).trans rfl; have xf6 := blk_frozen P2.out 6; have xc7 : w2.cell? ⟨g2, 7, none⟩ = some (.int .i64 m.f6) := (blk_cell P2.out 7).trans rfl; have xf7 := blk_frozen P2.out 7; have xc8 : w2.cell? ⟨g2, 8, none⟩ = some (.bool m.f7) := (blk_cell P2.out 8).trans rfl; have xf8 := blk_frozen P2.out 8; have xc9 : w2.cell? ⟨g2, 9, none⟩ = some (.slice A8 m.f8.length C8) := (blk_cell P2.out 9).trans rfl; have xf9 := blk_frozen P2.out 9; have xc10 : w2.cell? ⟨g2, 10, none⟩ = some (.slice A9 m.f9.length C9) := (blk_cell P2.out 10).trans rfl; have xf10 := blk_frozen P2.out 10; have yc0 : w2.cell? ⟨g3, 0, none⟩ = some (.int .i64 m.f0) := (blk_cell Q2.out 0).trans rfl; have yf0 := blk_frozen Q2.out 0; have yc1 : w2.cell? ⟨g3, 1, none⟩ = some (.int .i64 m.f1.f0) := (blk_cell Q2.out 1).trans rfl; have yf1 := blk_frozen Q2.out 1; have yc2 : w2.cell? ⟨g3, 2, none⟩ = some (.int .i64 m.f1.f1) := (blk_cell Q2.out 2).trans rfl; have yf2 := blk_frozen Q2.out 2; have yc3 : w2.cell? ⟨g3, 3, none⟩ = some (.int .i64 m.f2) := (blk_cell Q2.out 3).trans rfl; have yf3 := blk_frozen Q2.out 3; have yc4 : w2.cell? ⟨g3, 4, none⟩ = some (.int .i64 m.f3) := (blk_cell Q2.out 4).trans rfl; have yf4 := blk_frozen Q2.out 4; have yc5 : w2.cell? ⟨g3, 5, none⟩ = some (.int .i64 m.f4) := (blk_cell Q2.out 5).trans rfl; have yf5 := blk_frozen Q2.out 5; have yc6 : w2.cell? ⟨g3, 6, none⟩ = some (.int .i64 m.f5) := (blk_cell Q2.out 6).trans rfl; have yf6 := blk_frozen Q2.out 6; have yc7 : w2.cell? ⟨g3, 7, none⟩ = some (.int .i64 m.f6) := (blk_cell Q2.out 7).trans rfl; have yf7 := blk_frozen Q2.out 7; have yc8 : w2.cell? ⟨g3, 8, none⟩ = some (.bool m.f7) := (blk_cell Q2.out 8).trans rfl; have yf8 := blk_frozen Q2.out 8; have yc9 : w2.cell? ⟨g3, 9, none⟩ = some (.slice B8 m.f8.length D8) := (blk_cell Q2.out 9).trans rfl; have yf9 := blk_frozen Q2.out 9; have yc10 : w2.cell? ⟨g3, 10, none⟩ = some (.slice B9 m.f9.length D9) := (blk_cell Q2.out 10).trans rfl; have yf10 := blk_frozen Q2.out 10; clear hb hg hbox))
  clear xc0 xf0 xc1 xf1 xc2 xf2 xc3 xf3 xc4 xf4 xc5 xf5 xc6 xf6 xc7 xf7 xc8 xf8 xc9 xf9 xc10 xf10 yc0 yf0 yc1 yf1 yc2 yf2 yc3 yf3 yc4 yf4 yc5 yf5 yc6 yf6 yc7 yf7 yc8 yf8 yc9 yf9 yc10 yf10
  go_loopg [5] (m.f8.length + 1) (fun kq v5 w' => ∃ (i : Nat), v5 = .int .i64 (i : Int) ∧ Aside0 (i ≤ m.f8.length ∧ i + kq = m.f8.length + 1) ∧ Aside0 (Below w2.heap.size w2 w'))
  case atStart => exact ⟨0, rfl, ⟨by omega, by omega⟩, ⟨Below.refl _ _⟩⟩
  case round =>
    obtain ⟨i, rfl, HI, BW⟩ := hrel
    have P5 := Aside0.mk (blk_below P2.out BW.out); have Q5 := Aside0.mk (blk_below Q2.out BW.out)
    have xc9 : wr.cell? ⟨g2, 9, none⟩ = some (.slice A8 m.f8.length C8) := (blk_cell P5.out 9).trans rfl; have xf9 := blk_frozen P5.out 9; have yc9 : wr.cell? ⟨g3, 9, none⟩ = some (.slice B8 m.f8.length D8) := (blk_cell Q5.out 9).trans rfl; have yf9 := blk_frozen Q5.out 9
    by_cases hi : i < m.f8.length
    · have d1 : decide ((i : Int) < (m.f8.length : Int)) = true := decide_eq_true (by omega)
      have d2 : decide (i < m.f8.length) = true := decide_eq_true hi
      have d3 : (i < m.f8.length) = True := eq_true hi
      have hi0 : (0 : Int) ≤ (i : Int) := by omega
      have hi1 : (i : Int) < (m.f8.length : Int) := by omega
      have BWW := Aside0.mk (below_step B2.out BW.out)
      obtain ⟨ad, e1, x0_, x1_, x2_, x3_⟩ := at_T47 (Kd.C_below H8.out BWW.out) (i : Int) hi0 hi1
      obtain ⟨bd, e2, y0_, y1_, y2_, y3_⟩ := at_T47 (Kd.C_below K8.out BWW.out) (i : Int) hi0 hi1
      subst e1 e2
      obtain ⟨q, hq⟩ : ∃ q, q = rd_T47 m.f8 (i : Int) := ⟨_, rfl⟩
      rw [← hq, Int.toNat_natCast] at x0_ x1_ x2_ x3_ y0_ y1_ y2_ y3_
      clear hq
      have b2 : wrap64 ((i : Int) + 1) = ((i + 1 : Nat) : Int) := by have := HB8.out; unfold wrap64; omega
      have q1 := eq_true hi0; have q2 := eq_true hi1; have q3 : decide ((0 : Int) ≤ (i : Int)) = true := decide_eq_true hi0
      have NK := Aside0.mk (nk2_ hi HI.out.2)
      clear hi
      go_wp2_with fail
      repeat (go_quiet (fail); try go_wp2)
      go_roundg (gk - 1)
      case measure => have := NK.out.2; omega
      case rel => exact ⟨i + 1, by rw [b2], ⟨NK.out.1⟩, ⟨below_drewN_ BW.out _⟩⟩
    · have d1 : decide ((i : Int) < (m.f8.length : Int)) = false := decide_eq_false (by omega)
      have d2 : decide (i < m.f8.length) = false := decide_eq_false hi
      have d3 : (i < m.f8.length) = False := eq_false hi
      have B3 := Aside0.mk (below_step B2.out BW.out); have P3 := Aside0.mk P5.out; have Q3 := Aside0.mk Q5.out
      clear hi
      go_wp2_with fail
      clear xc9 xf9 yc9 yf9 P5 Q5 d1 d2 d3
      generalize wr = w3 at B3 P3 Q3 ⊢
      go_loopg [6] (m.f9.length + 1) (fun kq v5 w' => ∃ (i : Nat), v5 = .int .i64 (i : Int) ∧ Aside0 (i ≤ m.f9.length ∧ i + kq = m.f9.length + 1) ∧ Aside0 (Below w3.heap.size w3 w'))
      case atStart => exact ⟨0, rfl, ⟨by omega, by omega⟩, ⟨Below.refl _ _⟩⟩
      case round =>
        obtain ⟨i, rfl, HI, BW⟩ := hrel
        have P5 := Aside0.mk (blk_below P3.out BW.out); have Q5 := Aside0.mk (blk_below Q3.out BW.out)
        have xc10 : wr.cell? ⟨g2, 10, none⟩ = some (.slice A9 m.f9.length C9) := (blk_cell P5.out 10).trans rfl; have xf10 := blk_frozen P5.out 10; have yc10 : wr.cell? ⟨g3, 10, none⟩ = some (.slice B9 m.f9.length D9) := (blk_cell Q5.out 10).trans rfl; have yf10 := blk_frozen Q5.out 10
        by_cases hi : i < m.f9.length
        · have d1 : decide ((i : Int) < (m.f9.length : Int)) = true := decide_eq_true (by omega)
          have d2 : decide (i < m.f9.length) = true := decide_eq_true hi
          have d3 : (i < m.f9.length) = True := eq_true hi
          have hi0 : (0 : Int) ≤ (i : Int) := by omega
          have hi1 : (i : Int) < (m.f9.length : Int) := by omega
          have BWW := Aside0.mk (below_step B3.out BW.out)
          obtain ⟨ad, e1, x0_⟩ := Kd.at_int (Kd.C_below H9.out BWW.out) (i : Int) hi0 hi1
          obtain ⟨bd, e2, y0_⟩ := Kd.at_int (Kd.C_below K9.out BWW.out) (i : Int) hi0 hi1
          subst e1 e2
          rw [Int.toNat_natCast] at x0_ y0_
          have b2 : wrap64 ((i : Int) + 1) = ((i + 1 : Nat) : Int) := by have := HB9.out; unfold wrap64; omega
          have q1 := eq_true hi0; have q2 := eq_true hi1; have q3 : decide ((0 : Int) ≤ (i : Int)) = true := decide_eq_true hi0
          have NK := Aside0.mk (nk2_ hi HI.out.2)
          clear hi
          go_wp2_with fail
          repeat (go_quiet (fail); try go_wp2)
          go_roundg (gk - 1)
          case measure => have := NK.out.2; omega
          case rel => exact ⟨i + 1, by rw [b2], ⟨NK.out.1⟩, ⟨below_drewN_ BW.out _⟩⟩
        · have d1 : decide ((i : Int) < (m.f9.length : Int)) = false := decide_eq_false (by omega)
          have d2 : decide (i < m.f9.length) = false := decide_eq_false hi
          have d3 : (i < m.f9.length) = False := eq_false hi
          have B4 := Aside0.mk (below_step B3.out BW.out); have P4 := Aside0.mk P5.out; have Q4 := Aside0.mk Q5.out
          clear hi
          go_wp2_with fail
          go_ret
          exact ⟨rfl, B4.out⟩
end Go.Proofs.Ythgdojaildccaaa.M
