/-
  msg.Write: a message at the end of bytes, or why there is none.
-/
import Derived.Test.YtgmfafmefafiiaaPMsg
import Derived.Test.YtgmfafmefafiiaaOReaderR11
namespace Go.Proofs.Ytgmfafmefafiiaa.M
open Go.RowKit Go.Proofs.YtgmfafmefafiiaaW.PrintWords Go.Proofs.YtgmfafmefafiiaaW.PrintLast Go.Proofs.YtgmfafmefafiiaaW.PrintMore
open Go.Proofs.Ytgmfafmefafiiaa.Pure.Msg
open Go.Proofs.Ytgmfafmefafiiaa.Pure.Code (I64 enc)
set_option linter.unusedVariables false
set_option linter.unusedSimpArgs false
theorem row_on {base gm : Nat} {w w' : World} {v : Value} {xs : List Int} (h : Kd.R (Kd.int .u8) 5 w' base (fun k => (base ≤ k ∧ k ≠ gm) ∨ w.heap.size ≤ k) v xs) (hg : gm < w.heap.size) (hb : base ≤ w.heap.size) : Kd.R (Kd.int .u8) 5 w' base (fun k => base ≤ k ∧ k ≠ gm) v xs :=
  Kd.R_mono h (fun k hk => hk.elim id (fun q => ⟨Nat.le_trans hb q, fun e => by subst e; exact absurd hg (Nat.not_lt.mpr q)⟩))
theorem row_on2 {base gm gl : Nat} {w w' : World} {v : Value} {xs : List Int} (h : Kd.R (Kd.int .u8) 5 w' base (fun k => ((base ≤ k ∧ k ≠ gm) ∧ k ≠ gl) ∨ w.heap.size ≤ k) v xs) (hg : gm < w.heap.size) (hl : gl < w.heap.size) (hb : base ≤ w.heap.size) : Kd.R (Kd.int .u8) 5 w' base (fun k => (base ≤ k ∧ k ≠ gm) ∧ k ≠ gl) v xs :=
  Kd.R_mono h (fun k hk => hk.elim id (fun q => ⟨⟨Nat.le_trans hb q, fun e => by subst e; exact absurd hg (Nat.not_lt.mpr q)⟩, fun e => by subst e; exact absurd hl (Nat.not_lt.mpr q)⟩))
theorem blk_on {base gm : Nat} {w w' : World} {o : Obj} (h : w.heap[gm]? = some o) (hk : Kept w w' (fun k => base ≤ k ∧ k ≠ gm)) : w'.heap[gm]? = some o := (hk.2 gm (blk_lt h) (fun q => q.2 rfl)).trans h
theorem blk_on2 {base gm gl : Nat} {w w' : World} {o : Obj} (h : w.heap[gm]? = some o) (hk : Kept w w' (fun k => (base ≤ k ∧ k ≠ gm) ∧ k ≠ gl)) : w'.heap[gm]? = some o := (hk.2 gm (blk_lt h) (fun q => q.1.2 rfl)).trans h
theorem blk_on3 {base gm gl : Nat} {w w' : World} {o : Obj} (h : w.heap[gl]? = some o) (hk : Kept w w' (fun k => (base ≤ k ∧ k ≠ gm) ∧ k ≠ gl)) : w'.heap[gl]? = some o := (hk.2 gl (blk_lt h) (fun q => q.2 rfl)).trans h
theorem idx_0 (a b c d e f g : Int) (W : World) : (Instr.index 61 (.agg #[.int .i64 a, .int .i64 b, .int .i64 c, .int .i64 d, .int .i64 e, .int .i64 f, .int .i64 g]) (.int .i64 0)).run Try.prog W = .ok (.int .i64 a) W := rfl
theorem idx_1 (a b c d e f g : Int) (W : World) : (Instr.index 61 (.agg #[.int .i64 a, .int .i64 b, .int .i64 c, .int .i64 d, .int .i64 e, .int .i64 f, .int .i64 g]) (.int .i64 1)).run Try.prog W = .ok (.int .i64 b) W := rfl
theorem idx_2 (a b c d e f g : Int) (W : World) : (Instr.index 61 (.agg #[.int .i64 a, .int .i64 b, .int .i64 c, .int .i64 d, .int .i64 e, .int .i64 f, .int .i64 g]) (.int .i64 2)).run Try.prog W = .ok (.int .i64 c) W := rfl
theorem idx_3 (a b c d e f g : Int) (W : World) : (Instr.index 61 (.agg #[.int .i64 a, .int .i64 b, .int .i64 c, .int .i64 d, .int .i64 e, .int .i64 f, .int .i64 g]) (.int .i64 3)).run Try.prog W = .ok (.int .i64 d) W := rfl
theorem idx_4 (a b c d e f g : Int) (W : World) : (Instr.index 61 (.agg #[.int .i64 a, .int .i64 b, .int .i64 c, .int .i64 d, .int .i64 e, .int .i64 f, .int .i64 g]) (.int .i64 4)).run Try.prog W = .ok (.int .i64 e) W := rfl
theorem idx_5 (a b c d e f g : Int) (W : World) : (Instr.index 61 (.agg #[.int .i64 a, .int .i64 b, .int .i64 c, .int .i64 d, .int .i64 e, .int .i64 f, .int .i64 g]) (.int .i64 5)).run Try.prog W = .ok (.int .i64 f) W := rfl
theorem idx_6 (a b c d e f g : Int) (W : World) : (Instr.index 61 (.agg #[.int .i64 a, .int .i64 b, .int .i64 c, .int .i64 d, .int .i64 e, .int .i64 f, .int .i64 g]) (.int .i64 6)).run Try.prog W = .ok (.int .i64 g) W := rfl
abbrev set4 (w : World) (g : Nat) (x y z u : Value) : World := (((w.setCell ⟨g, 0, none⟩ x).setCell ⟨g, 1, none⟩ y).setCell ⟨g, 2, none⟩ z).setCell ⟨g, 3, none⟩ u
theorem set4_blk {w : World} {g t : Nat} {a b c d : Value} (h : w.heap[g]? = some (.cells #[a, b, c, d] t (0, 0))) (x y z u : Value) : (set4 w g x y z u).heap[g]? = some (.cells #[x, y, z, u] t (0, 0)) :=
  blk_put (blk_put (blk_put (blk_put h 0 x (cs' := #[x, b, c, d]) rfl) 1 y (cs' := #[x, y, c, d]) rfl) 2 z (cs' := #[x, y, z, d]) rfl) 3 u rfl
theorem set4_kept (w : World) (g : Nat) (x y z u : Value) : Kept w (set4 w g x y z u) (fun k => k = g) :=
  ((((Kept.refl w (fun k => k = g)).setCell (p := ⟨g, 0, none⟩) (.inl rfl) x).setCell (p := ⟨g, 1, none⟩) (.inl rfl) y).setCell (p := ⟨g, 2, none⟩) (.inl rfl) z).setCell (p := ⟨g, 3, none⟩) (.inl rfl) u
theorem below_setB {B : Nat} {w W : World} (h : Below B w W) {p : Addr} (hp : B ≤ p.block) (u : Value) : Below B w (W.setCell p u) :=
  ⟨h.os, h.tape, h.output, by simpa [World.setCell] using h.size, fun k hk => (Below.heap_setCell W p u k (by omega)).trans (h.block k hk)⟩
theorem set4_below {B : Nat} {w W : World} {g : Nat} (h : Below B w W) (hg : B ≤ g) (x y z u : Value) : Below B w (set4 W g x y z u) :=
  below_setB (below_setB (below_setB (below_setB h (p := ⟨g, 0, none⟩) hg x) (p := ⟨g, 1, none⟩) hg y) (p := ⟨g, 2, none⟩) hg z) (p := ⟨g, 3, none⟩) hg u
theorem nk_ {i n gk : Nat} (hi : i < n) (h : i + gk = n + 1) : (i + 1 ≤ n ∧ i + 1 + (gk - 1) = n + 1) ∧ 0 < gk := by omega
/-- what a message is in memory -/
abbrev msgV (m : S28) (A8 : Option Addr) (C8 : Nat) (A9 : Option Addr) (C9 : Nat) : Value := .agg #[.int .i64 m.f0, .int .i64 m.f1.f0, .int .i64 m.f1.f1, .int .i64 m.f2, .int .i64 m.f3, .int .i64 m.f4, .int .i64 m.f5, .int .i64 m.f6, .bool m.f7, .slice A8 m.f8.length C8, .slice A9 m.f9.length C9]
/-- what Write leaves -/
def Wrote (w : World) (l0 : List Int) (m : S28) (e : Ending) (w' : World) : Prop :=
  Below w.heap.size w w' ∧ ((e = .returned (.tuple #[.slice none 0 0, .int .i64 (wcode m)]) ∧ wcode m ≠ 0) ∨ (∃ v, e = .returned (.tuple #[v, .int .i64 0]) ∧ Kd.R (Kd.int .u8) 5 w' w.heap.size (fun _ => True) v (l0 ++ body m) ∧ wcode m = 0))
set_option maxHeartbeats 8000000 in
set_option maxRecDepth 100000 in
theorem msg_Write {A0 : Option Addr} {c0 : Nat} {l0 : List Int} {m : S28} {A8 : Option Addr} {C8 : Nat} {A9 : Option Addr} {C9 : Nat} {w : World}
    (hr0 : Kd.C (Kd.int .u8) w A0 l0.length l0) (hc0 : l0.length ≤ c0) (hl0 : l0.length ≤ 900000) (hr8 : Kd.C k50 w A8 m.f8.length m.f8) (hc8 : m.f8.length ≤ C8) (hr9 : Kd.C (Kd.int .i64) w A9 m.f9.length m.f9) (hc9 : m.f9.length ≤ C9) (hw : Wide m) (hb8 : m.f8.length ≤ 4611686018427387904) (hb9 : m.f9.length ≤ 4611686018427387904) :
    Calls Try.prog 12 #[.slice A0 l0.length c0, msgV m A8 C8 A9 C9] w (Wrote w l0 m) := by
  have HB := Aside0.mk (Below.refl w.heap.size w)
  have HR0 := Aside0.mk hr0; have HC0 := Aside0.mk hc0; have HL0 := Aside0.mk hl0; have HR8 := Aside0.mk hr8; have HR9 := Aside0.mk hr9
  clear hr0 hc0 hl0 hr8 hc8 hr9 hc9
  by_cases h1 : m.f0 < 1
  · have c1 : decide (m.f0 < 1) = true := decide_eq_true h1
    have HW := Aside0.mk (show wcode m = 110 by unfold wcode; rw [if_pos (.inl h1)])
    clear h1 hw hb8 hb9
    go_enter Try.func12, Try.ntmps12
    go_wp2_with (first | ((with_reducible refine gate_dst (N := 3) rfl ?_); refine box_event ?hg (N := 3) ?hd (cs := #[.int .i64 m.f0, .int .i64 m.f1.f0, .int .i64 m.f1.f1, .int .i64 m.f2, .int .i64 m.f3, .int .i64 m.f4, .int .i64 m.f5, .int .i64 m.f6, .bool m.f7, .slice A8 m.f8.length C8, .slice A9 m.f9.length C9]) (t := 28) ?hr ?_; (case hd => rfl); (case hg => rfl); (case hr => first | (go_simp; done) | (go_simp; rfl)); intro gm hg w1 hbox hb; have B1 := Aside0.mk (below_step HB.out hb); have BK1 := Aside0.mk hbox; have GM := Aside0.mk (show w.heap.size ≤ gm from by rw [hg]; exact Nat.le_refl _); have xc0 : w1.cell? ⟨gm, 0, none⟩ = some (.int .i64 m.f0) := (blk_cell BK1.out 0).trans rfl; have xf0 := blk_frozen BK1.out 0; have xc1 : w1.cell? ⟨gm, 1, none⟩ = some (.int .i64 m.f1.f0) := (blk_cell BK1.out 1).trans rfl; have xf1 := blk_frozen BK1.out 1; have xc2 : w1.cell? ⟨gm, 2, none⟩ = some (.int .i64 m.f1.f1) := (blk_cell BK1.out 2).trans rfl; have xf2 := blk_frozen BK1.out 2; have xc3 : w1.cell? ⟨gm, 3, none⟩ = some (.int .i64 m.f2) := (blk_cell BK1.out 3).trans rfl; have xf3 := blk_frozen BK1.out 3; have xc4 : w1.cell? ⟨gm, 4, none⟩ = some (.int .i64 m.f3) := (blk_cell BK1.out 4).trans rfl; have xf4 := blk_frozen BK1.out 4; have xc5 : w1.cell? ⟨gm, 5, none⟩ = some (.int .i64 m.f4) := (blk_cell BK1.out 5).trans rfl; have xf5 := blk_frozen BK1.out 5; have xc6 : w1.cell? ⟨gm, 6, none⟩ = some (.int .i64 m.f5) := (blk_cell BK1.out 6).trans rfl; have xf6 := blk_frozen BK1.out 6; have xc7 : w1.cell? ⟨gm, 7, none⟩ = some (.int .i64 m.f6) := (blk_cell BK1.out 7).trans rfl; have xf7 := blk_frozen BK1.out 7; have xc8 : w1.cell? ⟨gm, 8, none⟩ = some (.bool m.f7) := (blk_cell BK1.out 8).trans rfl; have xf8 := blk_frozen BK1.out 8; have xc9 : w1.cell? ⟨gm, 9, none⟩ = some (.slice A8 m.f8.length C8) := (blk_cell BK1.out 9).trans rfl; have xf9 := blk_frozen BK1.out 9; have xc10 : w1.cell? ⟨gm, 10, none⟩ = some (.slice A9 m.f9.length C9) := (blk_cell BK1.out 10).trans rfl; have xf10 := blk_frozen BK1.out 10; clear hb hg hbox))
    go_ret2
    exact ⟨B1.out, .inl ⟨by rw [HW.out]; rfl, by rw [HW.out]; decide⟩⟩
  have c1 : decide (m.f0 < 1) = false := decide_eq_false h1
  by_cases h2 : m.f0 > 16
  · have c2 : decide (m.f0 > 16) = true := decide_eq_true h2
    have c3 : decide (16 < m.f0) = true := decide_eq_true h2
    have HW := Aside0.mk (show wcode m = 110 by unfold wcode; rw [if_pos (.inr h2)])
    clear h1 h2 hw hb8 hb9
    go_enter Try.func12, Try.ntmps12
    go_wp2_with (first | ((with_reducible refine gate_dst (N := 3) rfl ?_); refine box_event ?hg (N := 3) ?hd (cs := #[.int .i64 m.f0, .int .i64 m.f1.f0, .int .i64 m.f1.f1, .int .i64 m.f2, .int .i64 m.f3, .int .i64 m.f4, .int .i64 m.f5, .int .i64 m.f6, .bool m.f7, .slice A8 m.f8.length C8, .slice A9 m.f9.length C9]) (t := 28) ?hr ?_; (case hd => rfl); (case hg => rfl); (case hr => first | (go_simp; done) | (go_simp; rfl)); intro gm hg w1 hbox hb; have B1 := Aside0.mk (below_step HB.out hb); have BK1 := Aside0.mk hbox; have GM := Aside0.mk (show w.heap.size ≤ gm from by rw [hg]; exact Nat.le_refl _); have xc0 : w1.cell? ⟨gm, 0, none⟩ = some (.int .i64 m.f0) := (blk_cell BK1.out 0).trans rfl; have xf0 := blk_frozen BK1.out 0; have xc1 : w1.cell? ⟨gm, 1, none⟩ = some (.int .i64 m.f1.f0) := (blk_cell BK1.out 1).trans rfl; have xf1 := blk_frozen BK1.out 1; have xc2 : w1.cell? ⟨gm, 2, none⟩ = some (.int .i64 m.f1.f1) := (blk_cell BK1.out 2).trans rfl; have xf2 := blk_frozen BK1.out 2; have xc3 : w1.cell? ⟨gm, 3, none⟩ = some (.int .i64 m.f2) := (blk_cell BK1.out 3).trans rfl; have xf3 := blk_frozen BK1.out 3; have xc4 : w1.cell? ⟨gm, 4, none⟩ = some (.int .i64 m.f3) := (blk_cell BK1.out 4).trans rfl; have xf4 := blk_frozen BK1.out 4; have xc5 : w1.cell? ⟨gm, 5, none⟩ = some (.int .i64 m.f4) := (blk_cell BK1.out 5).trans rfl; have xf5 := blk_frozen BK1.out 5; have xc6 : w1.cell? ⟨gm, 6, none⟩ = some (.int .i64 m.f5) := (blk_cell BK1.out 6).trans rfl; have xf6 := blk_frozen BK1.out 6; have xc7 : w1.cell? ⟨gm, 7, none⟩ = some (.int .i64 m.f6) := (blk_cell BK1.out 7).trans rfl; have xf7 := blk_frozen BK1.out 7; have xc8 : w1.cell? ⟨gm, 8, none⟩ = some (.bool m.f7) := (blk_cell BK1.out 8).trans rfl; have xf8 := blk_frozen BK1.out 8; have xc9 : w1.cell? ⟨gm, 9, none⟩ = some (.slice A8 m.f8.length C8) := (blk_cell BK1.out 9).trans rfl; have xf9 := blk_frozen BK1.out 9; have xc10 : w1.cell? ⟨gm, 10, none⟩ = some (.slice A9 m.f9.length C9) := (blk_cell BK1.out 10).trans rfl; have xf10 := blk_frozen BK1.out 10; clear hb hg hbox))
    go_ret2
    exact ⟨B1.out, .inl ⟨by rw [HW.out]; rfl, by rw [HW.out]; decide⟩⟩
  have c2 : decide (m.f0 > 16) = false := decide_eq_false h2
  have c3 : decide (16 < m.f0) = false := decide_eq_false h2
  by_cases h3 : m.f8.length > 1024
  · have c4 : decide ((m.f8.length : Int) > 1024) = true := decide_eq_true (by omega)
    have c5 : decide (1024 < (m.f8.length : Int)) = true := decide_eq_true (by omega)
    have HW := Aside0.mk (show wcode m = 2 by unfold wcode; rw [if_neg (by omega), if_pos (.inl h3)])
    clear h1 h2 h3 hw hb8 hb9
    go_enter Try.func12, Try.ntmps12
    go_wp2_with (first | ((with_reducible refine gate_dst (N := 3) rfl ?_); refine box_event ?hg (N := 3) ?hd (cs := #[.int .i64 m.f0, .int .i64 m.f1.f0, .int .i64 m.f1.f1, .int .i64 m.f2, .int .i64 m.f3, .int .i64 m.f4, .int .i64 m.f5, .int .i64 m.f6, .bool m.f7, .slice A8 m.f8.length C8, .slice A9 m.f9.length C9]) (t := 28) ?hr ?_; (case hd => rfl); (case hg => rfl); (case hr => first | (go_simp; done) | (go_simp; rfl)); intro gm hg w1 hbox hb; have B1 := Aside0.mk (below_step HB.out hb); have BK1 := Aside0.mk hbox; have GM := Aside0.mk (show w.heap.size ≤ gm from by rw [hg]; exact Nat.le_refl _); have xc0 : w1.cell? ⟨gm, 0, none⟩ = some (.int .i64 m.f0) := (blk_cell BK1.out 0).trans rfl; have xf0 := blk_frozen BK1.out 0; have xc1 : w1.cell? ⟨gm, 1, none⟩ = some (.int .i64 m.f1.f0) := (blk_cell BK1.out 1).trans rfl; have xf1 := blk_frozen BK1.out 1; have xc2 : w1.cell? ⟨gm, 2, none⟩ = some (.int .i64 m.f1.f1) := (blk_cell BK1.out 2).trans rfl; have xf2 := blk_frozen BK1.out 2; have xc3 : w1.cell? ⟨gm, 3, none⟩ = some (.int .i64 m.f2) := (blk_cell BK1.out 3).trans rfl; have xf3 := blk_frozen BK1.out 3; have xc4 : w1.cell? ⟨gm, 4, none⟩ = some (.int .i64 m.f3) := (blk_cell BK1.out 4).trans rfl; have xf4 := blk_frozen BK1.out 4; have xc5 : w1.cell? ⟨gm, 5, none⟩ = some (.int .i64 m.f4) := (blk_cell BK1.out 5).trans rfl; have xf5 := blk_frozen BK1.out 5; have xc6 : w1.cell? ⟨gm, 6, none⟩ = some (.int .i64 m.f5) := (blk_cell BK1.out 6).trans rfl; have xf6 := blk_frozen BK1.out 6; have xc7 : w1.cell? ⟨gm, 7, none⟩ = some (.int .i64 m.f6) := (blk_cell BK1.out 7).trans rfl; have xf7 := blk_frozen BK1.out 7; have xc8 : w1.cell? ⟨gm, 8, none⟩ = some (.bool m.f7) := (blk_cell BK1.out 8).trans rfl; have xf8 := blk_frozen BK1.out 8; have xc9 : w1.cell? ⟨gm, 9, none⟩ = some (.slice A8 m.f8.length C8) := (blk_cell BK1.out 9).trans rfl; have xf9 := blk_frozen BK1.out 9; have xc10 : w1.cell? ⟨gm, 10, none⟩ = some (.slice A9 m.f9.length C9) := (blk_cell BK1.out 10).trans rfl; have xf10 := blk_frozen BK1.out 10; clear hb hg hbox))
    go_ret2
    exact ⟨B1.out, .inl ⟨by rw [HW.out]; rfl, by rw [HW.out]; decide⟩⟩
  have c4 : decide ((m.f8.length : Int) > 1024) = false := decide_eq_false (by omega)
  have c5 : decide (1024 < (m.f8.length : Int)) = false := decide_eq_false (by omega)
  by_cases h4 : m.f9.length > 8
  · have c6 : decide ((m.f9.length : Int) > 8) = true := decide_eq_true (by omega)
    have c7 : decide (8 < (m.f9.length : Int)) = true := decide_eq_true (by omega)
    have HW := Aside0.mk (show wcode m = 2 by unfold wcode; rw [if_neg (by omega), if_pos (.inr h4)])
    clear h1 h2 h3 h4 hw hb8 hb9
    go_enter Try.func12, Try.ntmps12
    go_wp2_with (first | ((with_reducible refine gate_dst (N := 3) rfl ?_); refine box_event ?hg (N := 3) ?hd (cs := #[.int .i64 m.f0, .int .i64 m.f1.f0, .int .i64 m.f1.f1, .int .i64 m.f2, .int .i64 m.f3, .int .i64 m.f4, .int .i64 m.f5, .int .i64 m.f6, .bool m.f7, .slice A8 m.f8.length C8, .slice A9 m.f9.length C9]) (t := 28) ?hr ?_; (case hd => rfl); (case hg => rfl); (case hr => first | (go_simp; done) | (go_simp; rfl)); intro gm hg w1 hbox hb; have B1 := Aside0.mk (below_step HB.out hb); have BK1 := Aside0.mk hbox; have GM := Aside0.mk (show w.heap.size ≤ gm from by rw [hg]; exact Nat.le_refl _); have xc0 : w1.cell? ⟨gm, 0, none⟩ = some (.int .i64 m.f0) := (blk_cell BK1.out 0).trans rfl; have xf0 := blk_frozen BK1.out 0; have xc1 : w1.cell? ⟨gm, 1, none⟩ = some (.int .i64 m.f1.f0) := (blk_cell BK1.out 1).trans rfl; have xf1 := blk_frozen BK1.out 1; have xc2 : w1.cell? ⟨gm, 2, none⟩ = some (.int .i64 m.f1.f1) := (blk_cell BK1.out 2).trans rfl; have xf2 := blk_frozen BK1.out 2; have xc3 : w1.cell? ⟨gm, 3, none⟩ = some (.int .i64 m.f2) := (blk_cell BK1.out 3).trans rfl; have xf3 := blk_frozen BK1.out 3; have xc4 : w1.cell? ⟨gm, 4, none⟩ = some (.int .i64 m.f3) := (blk_cell BK1.out 4).trans rfl; have xf4 := blk_frozen BK1.out 4; have xc5 : w1.cell? ⟨gm, 5, none⟩ = some (.int .i64 m.f4) := (blk_cell BK1.out 5).trans rfl; have xf5 := blk_frozen BK1.out 5; have xc6 : w1.cell? ⟨gm, 6, none⟩ = some (.int .i64 m.f5) := (blk_cell BK1.out 6).trans rfl; have xf6 := blk_frozen BK1.out 6; have xc7 : w1.cell? ⟨gm, 7, none⟩ = some (.int .i64 m.f6) := (blk_cell BK1.out 7).trans rfl; have xf7 := blk_frozen BK1.out 7; have xc8 : w1.cell? ⟨gm, 8, none⟩ = some (.bool m.f7) := (blk_cell BK1.out 8).trans rfl; have xf8 := blk_frozen BK1.out 8; have xc9 : w1.cell? ⟨gm, 9, none⟩ = some (.slice A8 m.f8.length C8) := (blk_cell BK1.out 9).trans rfl; have xf9 := blk_frozen BK1.out 9; have xc10 : w1.cell? ⟨gm, 10, none⟩ = some (.slice A9 m.f9.length C9) := (blk_cell BK1.out 10).trans rfl; have xf10 := blk_frozen BK1.out 10; clear hb hg hbox))
    go_ret2
    exact ⟨B1.out, .inl ⟨by rw [HW.out]; rfl, by rw [HW.out]; decide⟩⟩
  have c6 : decide ((m.f9.length : Int) > 8) = false := decide_eq_false (by omega)
  have c7 : decide (8 < (m.f9.length : Int)) = false := decide_eq_false (by omega)
  have HWC := Aside0.mk (show wcode m = if (∀ x ∈ head m, small x) ∧ ∀ x ∈ m.f8, smallL x then 0 else 1 by unfold wcode; rw [if_neg (by omega), if_neg (by omega)])
  have HL8 := Aside0.mk (show m.f8.length ≤ 1024 by omega); have HL9 := Aside0.mk (show m.f9.length ≤ 8 by omega)
  have WI := Aside0.mk hw
  have HE1 := Aside0.mk (show ∀ i, (menc ((head m).take i)).length ≤ 70 from fun i => by have h := menc_len ((head m).take i) (fun x hx => hw.1 x (List.mem_of_mem_take hx)); have h2 : ((head m).take i).length ≤ 7 := (by rw [List.length_take]; exact Nat.min_le_right _ _); omega)
  have HE2 := Aside0.mk (show ∀ i, (linesE (m.f8.take i)).length ≤ 40960 from fun i => by have h := linesE_len (m.f8.take i) (fun x hx => hw.2.2.1 x (List.mem_of_mem_take hx)); have h2 : (m.f8.take i).length ≤ 1024 := (by rw [List.length_take]; omega); omega)
  have HE3 := Aside0.mk (show ∀ i, (menc (m.f9.take i)).length ≤ 80 from fun i => by have h := menc_len (m.f9.take i) (fun x hx => hw.2.2.2 x (List.mem_of_mem_take hx)); have h2 : (m.f9.take i).length ≤ 8 := (by rw [List.length_take]; omega); omega)
  clear h1 h2 h3 h4 hw hb8 hb9
  go_enter Try.func12, Try.ntmps12
  go_wp2_with (first | ((with_reducible refine gate_dst (N := 3) rfl ?_); refine box_event ?hg (N := 3) ?hd (cs := #[.int .i64 m.f0, .int .i64 m.f1.f0, .int .i64 m.f1.f1, .int .i64 m.f2, .int .i64 m.f3, .int .i64 m.f4, .int .i64 m.f5, .int .i64 m.f6, .bool m.f7, .slice A8 m.f8.length C8, .slice A9 m.f9.length C9]) (t := 28) ?hr ?_; (case hd => rfl); (case hg => rfl); (case hr => first | (go_simp; done) | (go_simp; rfl)); intro gm hg w1 hbox hb; have B1 := Aside0.mk (below_step HB.out hb); have BK1 := Aside0.mk hbox; have GM := Aside0.mk (show w.heap.size ≤ gm from by rw [hg]; exact Nat.le_refl _); have xc0 : w1.cell? ⟨gm, 0, none⟩ = some (.int .i64 m.f0) := (blk_cell BK1.out 0).trans rfl; have xf0 := blk_frozen BK1.out 0; have xc1 : w1.cell? ⟨gm, 1, none⟩ = some (.int .i64 m.f1.f0) := (blk_cell BK1.out 1).trans rfl; have xf1 := blk_frozen BK1.out 1; have xc2 : w1.cell? ⟨gm, 2, none⟩ = some (.int .i64 m.f1.f1) := (blk_cell BK1.out 2).trans rfl; have xf2 := blk_frozen BK1.out 2; have xc3 : w1.cell? ⟨gm, 3, none⟩ = some (.int .i64 m.f2) := (blk_cell BK1.out 3).trans rfl; have xf3 := blk_frozen BK1.out 3; have xc4 : w1.cell? ⟨gm, 4, none⟩ = some (.int .i64 m.f3) := (blk_cell BK1.out 4).trans rfl; have xf4 := blk_frozen BK1.out 4; have xc5 : w1.cell? ⟨gm, 5, none⟩ = some (.int .i64 m.f4) := (blk_cell BK1.out 5).trans rfl; have xf5 := blk_frozen BK1.out 5; have xc6 : w1.cell? ⟨gm, 6, none⟩ = some (.int .i64 m.f5) := (blk_cell BK1.out 6).trans rfl; have xf6 := blk_frozen BK1.out 6; have xc7 : w1.cell? ⟨gm, 7, none⟩ = some (.int .i64 m.f6) := (blk_cell BK1.out 7).trans rfl; have xf7 := blk_frozen BK1.out 7; have xc8 : w1.cell? ⟨gm, 8, none⟩ = some (.bool m.f7) := (blk_cell BK1.out 8).trans rfl; have xf8 := blk_frozen BK1.out 8; have xc9 : w1.cell? ⟨gm, 9, none⟩ = some (.slice A8 m.f8.length C8) := (blk_cell BK1.out 9).trans rfl; have xf9 := blk_frozen BK1.out 9; have xc10 : w1.cell? ⟨gm, 10, none⟩ = some (.slice A9 m.f9.length C9) := (blk_cell BK1.out 10).trans rfl; have xf10 := blk_frozen BK1.out 10; clear hb hg hbox) | ((with_reducible refine gate_dst (N := 33) rfl ?_); refine Kd.R_lit (Kd.int .u8) _ 5 ?hg (N := 33) ?hd (xs := ([] : List Int)) (inner := []) (ok := fun _ => True) (okp := fun _ => True) ?hr ?hp (fun _ hk => hk) trivial (Below.refl _ _) (Nat.le_refl _) (by simp) ?_; (case hd => rfl); (case hg => rfl); (case hr => first | (go_simp; done) | (go_simp; rfl)); (case hp => exact (Reps.none _ _)); intro v1 w2 ho10 hb hg_ hnew_; clear hg_ hnew_; have O2 := Aside0.mk ho10; have B2 := Aside0.mk (below_step B1.out hb); have BX2 := Aside0.mk hb; have BK2 := Aside0.mk (blk_below BK1.out hb); clear hb ho10) | ((with_reducible refine gate_builtin (b := .append) (xs := #[.tmp 33, .tmp 34]) rfl ?_); at_builtin; refine Kd.R_append_rows (Kd.int .u8) (w0 := w1) w1.heap.size rfl (.tmp 33) (.tmp 34) 22 5 (.int .u8 0) 1 rfl Try.underlying22 info5 rfl (by decide) (by omega) v1 [] l0 _ _ _ (fun _ => True) (fun _ => False) rfl rfl ?aO ?aR (fun _ _ h => h) (fun _ h => h.elim) ?aF ?aB ?aS ?aL ?_; (case aR => exact Kd.C_below HR0.out B2.out); (case aB => exact (BX2.out)); (case aF => exact (fun _ _ => trivial)); (case aO => exact O2.out); (case aS => exact (BX2.out).size); (case aL => have := HL0.out; simp only [List.length_nil]; omega); intro v2 w3 ho hb hg hat; rw [List.nil_append] at ho; have O3 := Aside0.mk (Kd.R_mono (ok' := fun k => w.heap.size ≤ k ∧ k ≠ gm) (Kd.R_lower (Kd.R_bound ho) B1.out.size) (fun k hk => ⟨Nat.le_trans B1.out.size hk.2.1, fun e => by subst e; exact absurd (blk_lt BK1.out) (Nat.not_lt.mpr hk.2.1)⟩)); have B3 := Aside0.mk (below_step B1.out hb); have BK3 := Aside0.mk (blk_below BK1.out hb); clear ho hb hg hat; clear xc0 xf0 xc1 xf1 xc2 xf2 xc3 xf3 xc4 xf4 xc5 xf5 xc6 xf6 xc7 xf7 xc8 xf8 xc9 xf9 xc10 xf10; have xc0 : w3.cell? ⟨gm, 0, none⟩ = some (.int .i64 m.f0) := (blk_cell BK3.out 0).trans rfl; have xf0 := blk_frozen BK3.out 0; have xc1 : w3.cell? ⟨gm, 1, none⟩ = some (.int .i64 m.f1.f0) := (blk_cell BK3.out 1).trans rfl; have xf1 := blk_frozen BK3.out 1; have xc2 : w3.cell? ⟨gm, 2, none⟩ = some (.int .i64 m.f1.f1) := (blk_cell BK3.out 2).trans rfl; have xf2 := blk_frozen BK3.out 2; have xc3 : w3.cell? ⟨gm, 3, none⟩ = some (.int .i64 m.f2) := (blk_cell BK3.out 3).trans rfl; have xf3 := blk_frozen BK3.out 3; have xc4 : w3.cell? ⟨gm, 4, none⟩ = some (.int .i64 m.f3) := (blk_cell BK3.out 4).trans rfl; have xf4 := blk_frozen BK3.out 4; have xc5 : w3.cell? ⟨gm, 5, none⟩ = some (.int .i64 m.f4) := (blk_cell BK3.out 5).trans rfl; have xf5 := blk_frozen BK3.out 5; have xc6 : w3.cell? ⟨gm, 6, none⟩ = some (.int .i64 m.f5) := (blk_cell BK3.out 6).trans rfl; have xf6 := blk_frozen BK3.out 6; have xc7 : w3.cell? ⟨gm, 7, none⟩ = some (.int .i64 m.f6) := (blk_cell BK3.out 7).trans rfl; have xf7 := blk_frozen BK3.out 7; have xc8 : w3.cell? ⟨gm, 8, none⟩ = some (.bool m.f7) := (blk_cell BK3.out 8).trans rfl; have xf8 := blk_frozen BK3.out 8; have xc9 : w3.cell? ⟨gm, 9, none⟩ = some (.slice A8 m.f8.length C8) := (blk_cell BK3.out 9).trans rfl; have xf9 := blk_frozen BK3.out 9; have xc10 : w3.cell? ⟨gm, 10, none⟩ = some (.slice A9 m.f9.length C9) := (blk_cell BK3.out 10).trans rfl; have xf10 := blk_frozen BK3.out 10))
  go_loopg [6, 53] 8 (fun kq v6 v53 w' => ∃ (i : Nat), v53 = .int .i64 (i : Int) ∧ Aside0 (i ≤ 7 ∧ i + kq = 8 ∧ ∀ x ∈ (head m).take i, small x) ∧ Aside0 (Kd.R (Kd.int .u8) 5 w' w.heap.size (fun k => w.heap.size ≤ k ∧ k ≠ gm) v6 (l0 ++ menc ((head m).take i))) ∧ Aside0 (w'.heap[gm]? = some (.cells #[.int .i64 m.f0, .int .i64 m.f1.f0, .int .i64 m.f1.f1, .int .i64 m.f2, .int .i64 m.f3, .int .i64 m.f4, .int .i64 m.f5, .int .i64 m.f6, .bool m.f7, .slice A8 m.f8.length C8, .slice A9 m.f9.length C9] 28 (0, 0))) ∧ Aside0 (Below w.heap.size w w'))
  case atStart => exact ⟨0, rfl, ⟨by omega, by omega, by simp⟩, ⟨by simpa [menc] using O3.out⟩, BK3, B3⟩
  case round =>
    obtain ⟨i, rfl, HI, O5, BK5, B5⟩ := hrel
    clear xc0 xf0 xc1 xf1 xc2 xf2 xc3 xf3 xc4 xf4 xc5 xf5 xc6 xf6 xc7 xf7 xc8 xf8 xc9 xf9 xc10 xf10
    by_cases hi0 : i = 0
    · subst hi0
      have d1 : decide ((0 : Int) < 7) = true := by decide
      have hd : (head m)[0]'(show 0 < 7 by decide) = m.f0 := rfl
      have hnx := menc_next (l := head m) (i := 0) (show 0 < 7 by decide)
      rw [hd] at hnx
      have hix : I64 (m.f0) := WI.out.1 _ (by rw [← hd]; exact List.getElem_mem _)
      have HTK := Aside0.mk (show (head m).take 1 = (head m).take 0 ++ [m.f0] from rfl)
      have HMM := Aside0.mk (show m.f0 ∈ head m by rw [← hd]; exact List.getElem_mem _)
      obtain ⟨kn, hkn⟩ := num_at (l0 ++ menc ((head m).take 0)) (m.f0) hix (by have := HE1.out 0; have := HL0.out; rw [List.length_append]; omega)
      rw [List.append_assoc, ← hnx] at hkn
      have HKN := Aside0.mk hkn
      clear hd hnx hix hkn
      have hidx := idx_0 m.f0 m.f1.f0 m.f1.f1 m.f2 m.f3 m.f4 m.f5
      by_cases hs1 : m.f0 < 0
      · have t1 : decide (m.f0 < 0) = true := decide_eq_true hs1
        have HW := Aside0.mk (show wcode m = 1 by rw [HWC.out, if_neg (fun q => by have := q.1 _ HMM.out; unfold small at this; omega)])
        clear hs1
        go_wp2_with fail
        go_ret2
        exact ⟨B5.out, .inl ⟨by rw [HW.out]; rfl, by rw [HW.out]; decide⟩⟩
      have t1 : decide (m.f0 < 0) = false := decide_eq_false hs1
      by_cases hs2 : m.f0 > 1073741824
      · have t2 : decide (m.f0 > 1073741824) = true := decide_eq_true hs2
        have t3 : decide (1073741824 < m.f0) = true := decide_eq_true hs2
        have HW := Aside0.mk (show wcode m = 1 by rw [HWC.out, if_neg (fun q => by have := q.1 _ HMM.out; unfold small at this; omega)])
        clear hs1 hs2
        go_wp2_with fail
        go_ret2
        exact ⟨B5.out, .inl ⟨by rw [HW.out]; rfl, by rw [HW.out]; decide⟩⟩
      have t2 : decide (m.f0 > 1073741824) = false := decide_eq_false hs2
      have t3 : decide (1073741824 < m.f0) = false := decide_eq_false hs2
      have HSM := Aside0.mk (show small (m.f0) from ⟨by omega, by omega⟩)
      clear hs1 hs2
      go_wp2_with fail
      refine (code_Num.calls kn (fun k => w.heap.size ≤ k ∧ k ≠ gm) u6 _ _ _ w wr B5.out O5.out HKN.out).mono ?_; rintro e w6 ⟨v7, rfl, ho, hb, hkp⟩; have B6 := Aside0.mk hb; have O6 := Aside0.mk (row_on ho (blk_lt BK5.out) B5.out.size); have BK6 := Aside0.mk (blk_on BK5.out hkp); clear ho hb hkp
      go_wp2_with fail
      go_roundg (gk - 1)
      case measure => have := HI.out.2.1; omega
      case rel => exact ⟨1, rfl, ⟨by omega, by have := HI.out.2.1; omega, fun x hx => by rw [HTK.out] at hx; exact (List.mem_append.mp hx).elim (HI.out.2.2 x) (fun q => by rw [List.mem_singleton.mp q]; exact HSM.out)⟩, O6, BK6, B6⟩
    by_cases hi1 : i = 1
    · subst hi1
      have d1 : decide ((1 : Int) < 7) = true := by decide
      have hd : (head m)[1]'(show 1 < 7 by decide) = m.f1.f0 := rfl
      have hnx := menc_next (l := head m) (i := 1) (show 1 < 7 by decide)
      rw [hd] at hnx
      have hix : I64 (m.f1.f0) := WI.out.1 _ (by rw [← hd]; exact List.getElem_mem _)
      have HTK := Aside0.mk (show (head m).take 2 = (head m).take 1 ++ [m.f1.f0] from rfl)
      have HMM := Aside0.mk (show m.f1.f0 ∈ head m by rw [← hd]; exact List.getElem_mem _)
      obtain ⟨kn, hkn⟩ := num_at (l0 ++ menc ((head m).take 1)) (m.f1.f0) hix (by have := HE1.out 1; have := HL0.out; rw [List.length_append]; omega)
      rw [List.append_assoc, ← hnx] at hkn
      have HKN := Aside0.mk hkn
      clear hd hnx hix hkn
      have hidx := idx_1 m.f0 m.f1.f0 m.f1.f1 m.f2 m.f3 m.f4 m.f5
      by_cases hs1 : m.f1.f0 < 0
      · have t1 : decide (m.f1.f0 < 0) = true := decide_eq_true hs1
        have HW := Aside0.mk (show wcode m = 1 by rw [HWC.out, if_neg (fun q => by have := q.1 _ HMM.out; unfold small at this; omega)])
        clear hs1
        go_wp2_with fail
        go_ret2
        exact ⟨B5.out, .inl ⟨by rw [HW.out]; rfl, by rw [HW.out]; decide⟩⟩
      have t1 : decide (m.f1.f0 < 0) = false := decide_eq_false hs1
      by_cases hs2 : m.f1.f0 > 1073741824
      · have t2 : decide (m.f1.f0 > 1073741824) = true := decide_eq_true hs2
        have t3 : decide (1073741824 < m.f1.f0) = true := decide_eq_true hs2
        have HW := Aside0.mk (show wcode m = 1 by rw [HWC.out, if_neg (fun q => by have := q.1 _ HMM.out; unfold small at this; omega)])
        clear hs1 hs2
        go_wp2_with fail
        go_ret2
        exact ⟨B5.out, .inl ⟨by rw [HW.out]; rfl, by rw [HW.out]; decide⟩⟩
      have t2 : decide (m.f1.f0 > 1073741824) = false := decide_eq_false hs2
      have t3 : decide (1073741824 < m.f1.f0) = false := decide_eq_false hs2
      have HSM := Aside0.mk (show small (m.f1.f0) from ⟨by omega, by omega⟩)
      clear hs1 hs2
      go_wp2_with fail
      refine (code_Num.calls kn (fun k => w.heap.size ≤ k ∧ k ≠ gm) u6 _ _ _ w wr B5.out O5.out HKN.out).mono ?_; rintro e w6 ⟨v7, rfl, ho, hb, hkp⟩; have B6 := Aside0.mk hb; have O6 := Aside0.mk (row_on ho (blk_lt BK5.out) B5.out.size); have BK6 := Aside0.mk (blk_on BK5.out hkp); clear ho hb hkp
      go_wp2_with fail
      go_roundg (gk - 1)
      case measure => have := HI.out.2.1; omega
      case rel => exact ⟨2, rfl, ⟨by omega, by have := HI.out.2.1; omega, fun x hx => by rw [HTK.out] at hx; exact (List.mem_append.mp hx).elim (HI.out.2.2 x) (fun q => by rw [List.mem_singleton.mp q]; exact HSM.out)⟩, O6, BK6, B6⟩
    by_cases hi2 : i = 2
    · subst hi2
      have d1 : decide ((2 : Int) < 7) = true := by decide
      have hd : (head m)[2]'(show 2 < 7 by decide) = m.f1.f1 := rfl
      have hnx := menc_next (l := head m) (i := 2) (show 2 < 7 by decide)
      rw [hd] at hnx
      have hix : I64 (m.f1.f1) := WI.out.1 _ (by rw [← hd]; exact List.getElem_mem _)
      have HTK := Aside0.mk (show (head m).take 3 = (head m).take 2 ++ [m.f1.f1] from rfl)
      have HMM := Aside0.mk (show m.f1.f1 ∈ head m by rw [← hd]; exact List.getElem_mem _)
      obtain ⟨kn, hkn⟩ := num_at (l0 ++ menc ((head m).take 2)) (m.f1.f1) hix (by have := HE1.out 2; have := HL0.out; rw [List.length_append]; omega)
      rw [List.append_assoc, ← hnx] at hkn
      have HKN := Aside0.mk hkn
      clear hd hnx hix hkn
      have hidx := idx_2 m.f0 m.f1.f0 m.f1.f1 m.f2 m.f3 m.f4 m.f5
      by_cases hs1 : m.f1.f1 < 0
      · have t1 : decide (m.f1.f1 < 0) = true := decide_eq_true hs1
        have HW := Aside0.mk (show wcode m = 1 by rw [HWC.out, if_neg (fun q => by have := q.1 _ HMM.out; unfold small at this; omega)])
        clear hs1
        go_wp2_with fail
        go_ret2
        exact ⟨B5.out, .inl ⟨by rw [HW.out]; rfl, by rw [HW.out]; decide⟩⟩
      have t1 : decide (m.f1.f1 < 0) = false := decide_eq_false hs1
      by_cases hs2 : m.f1.f1 > 1073741824
      · have t2 : decide (m.f1.f1 > 1073741824) = true := decide_eq_true hs2
        have t3 : decide (1073741824 < m.f1.f1) = true := decide_eq_true hs2
        have HW := Aside0.mk (show wcode m = 1 by rw [HWC.out, if_neg (fun q => by have := q.1 _ HMM.out; unfold small at this; omega)])
        clear hs1 hs2
        go_wp2_with fail
        go_ret2
        exact ⟨B5.out, .inl ⟨by rw [HW.out]; rfl, by rw [HW.out]; decide⟩⟩
      have t2 : decide (m.f1.f1 > 1073741824) = false := decide_eq_false hs2
      have t3 : decide (1073741824 < m.f1.f1) = false := decide_eq_false hs2
      have HSM := Aside0.mk (show small (m.f1.f1) from ⟨by omega, by omega⟩)
      clear hs1 hs2
      go_wp2_with fail
      refine (code_Num.calls kn (fun k => w.heap.size ≤ k ∧ k ≠ gm) u6 _ _ _ w wr B5.out O5.out HKN.out).mono ?_; rintro e w6 ⟨v7, rfl, ho, hb, hkp⟩; have B6 := Aside0.mk hb; have O6 := Aside0.mk (row_on ho (blk_lt BK5.out) B5.out.size); have BK6 := Aside0.mk (blk_on BK5.out hkp); clear ho hb hkp
      go_wp2_with fail
      go_roundg (gk - 1)
      case measure => have := HI.out.2.1; omega
      case rel => exact ⟨3, rfl, ⟨by omega, by have := HI.out.2.1; omega, fun x hx => by rw [HTK.out] at hx; exact (List.mem_append.mp hx).elim (HI.out.2.2 x) (fun q => by rw [List.mem_singleton.mp q]; exact HSM.out)⟩, O6, BK6, B6⟩
    by_cases hi3 : i = 3
    · subst hi3
      have d1 : decide ((3 : Int) < 7) = true := by decide
      have hd : (head m)[3]'(show 3 < 7 by decide) = m.f2 := rfl
      have hnx := menc_next (l := head m) (i := 3) (show 3 < 7 by decide)
      rw [hd] at hnx
      have hix : I64 (m.f2) := WI.out.1 _ (by rw [← hd]; exact List.getElem_mem _)
      have HTK := Aside0.mk (show (head m).take 4 = (head m).take 3 ++ [m.f2] from rfl)
      have HMM := Aside0.mk (show m.f2 ∈ head m by rw [← hd]; exact List.getElem_mem _)
      obtain ⟨kn, hkn⟩ := num_at (l0 ++ menc ((head m).take 3)) (m.f2) hix (by have := HE1.out 3; have := HL0.out; rw [List.length_append]; omega)
      rw [List.append_assoc, ← hnx] at hkn
      have HKN := Aside0.mk hkn
      clear hd hnx hix hkn
      have hidx := idx_3 m.f0 m.f1.f0 m.f1.f1 m.f2 m.f3 m.f4 m.f5
      by_cases hs1 : m.f2 < 0
      · have t1 : decide (m.f2 < 0) = true := decide_eq_true hs1
        have HW := Aside0.mk (show wcode m = 1 by rw [HWC.out, if_neg (fun q => by have := q.1 _ HMM.out; unfold small at this; omega)])
        clear hs1
        go_wp2_with fail
        go_ret2
        exact ⟨B5.out, .inl ⟨by rw [HW.out]; rfl, by rw [HW.out]; decide⟩⟩
      have t1 : decide (m.f2 < 0) = false := decide_eq_false hs1
      by_cases hs2 : m.f2 > 1073741824
      · have t2 : decide (m.f2 > 1073741824) = true := decide_eq_true hs2
        have t3 : decide (1073741824 < m.f2) = true := decide_eq_true hs2
        have HW := Aside0.mk (show wcode m = 1 by rw [HWC.out, if_neg (fun q => by have := q.1 _ HMM.out; unfold small at this; omega)])
        clear hs1 hs2
        go_wp2_with fail
        go_ret2
        exact ⟨B5.out, .inl ⟨by rw [HW.out]; rfl, by rw [HW.out]; decide⟩⟩
      have t2 : decide (m.f2 > 1073741824) = false := decide_eq_false hs2
      have t3 : decide (1073741824 < m.f2) = false := decide_eq_false hs2
      have HSM := Aside0.mk (show small (m.f2) from ⟨by omega, by omega⟩)
      clear hs1 hs2
      go_wp2_with fail
      refine (code_Num.calls kn (fun k => w.heap.size ≤ k ∧ k ≠ gm) u6 _ _ _ w wr B5.out O5.out HKN.out).mono ?_; rintro e w6 ⟨v7, rfl, ho, hb, hkp⟩; have B6 := Aside0.mk hb; have O6 := Aside0.mk (row_on ho (blk_lt BK5.out) B5.out.size); have BK6 := Aside0.mk (blk_on BK5.out hkp); clear ho hb hkp
      go_wp2_with fail
      go_roundg (gk - 1)
      case measure => have := HI.out.2.1; omega
      case rel => exact ⟨4, rfl, ⟨by omega, by have := HI.out.2.1; omega, fun x hx => by rw [HTK.out] at hx; exact (List.mem_append.mp hx).elim (HI.out.2.2 x) (fun q => by rw [List.mem_singleton.mp q]; exact HSM.out)⟩, O6, BK6, B6⟩
    by_cases hi4 : i = 4
    · subst hi4
      have d1 : decide ((4 : Int) < 7) = true := by decide
      have hd : (head m)[4]'(show 4 < 7 by decide) = m.f3 := rfl
      have hnx := menc_next (l := head m) (i := 4) (show 4 < 7 by decide)
      rw [hd] at hnx
      have hix : I64 (m.f3) := WI.out.1 _ (by rw [← hd]; exact List.getElem_mem _)
      have HTK := Aside0.mk (show (head m).take 5 = (head m).take 4 ++ [m.f3] from rfl)
      have HMM := Aside0.mk (show m.f3 ∈ head m by rw [← hd]; exact List.getElem_mem _)
      obtain ⟨kn, hkn⟩ := num_at (l0 ++ menc ((head m).take 4)) (m.f3) hix (by have := HE1.out 4; have := HL0.out; rw [List.length_append]; omega)
      rw [List.append_assoc, ← hnx] at hkn
      have HKN := Aside0.mk hkn
      clear hd hnx hix hkn
      have hidx := idx_4 m.f0 m.f1.f0 m.f1.f1 m.f2 m.f3 m.f4 m.f5
      by_cases hs1 : m.f3 < 0
      · have t1 : decide (m.f3 < 0) = true := decide_eq_true hs1
        have HW := Aside0.mk (show wcode m = 1 by rw [HWC.out, if_neg (fun q => by have := q.1 _ HMM.out; unfold small at this; omega)])
        clear hs1
        go_wp2_with fail
        go_ret2
        exact ⟨B5.out, .inl ⟨by rw [HW.out]; rfl, by rw [HW.out]; decide⟩⟩
      have t1 : decide (m.f3 < 0) = false := decide_eq_false hs1
      by_cases hs2 : m.f3 > 1073741824
      · have t2 : decide (m.f3 > 1073741824) = true := decide_eq_true hs2
        have t3 : decide (1073741824 < m.f3) = true := decide_eq_true hs2
        have HW := Aside0.mk (show wcode m = 1 by rw [HWC.out, if_neg (fun q => by have := q.1 _ HMM.out; unfold small at this; omega)])
        clear hs1 hs2
        go_wp2_with fail
        go_ret2
        exact ⟨B5.out, .inl ⟨by rw [HW.out]; rfl, by rw [HW.out]; decide⟩⟩
      have t2 : decide (m.f3 > 1073741824) = false := decide_eq_false hs2
      have t3 : decide (1073741824 < m.f3) = false := decide_eq_false hs2
      have HSM := Aside0.mk (show small (m.f3) from ⟨by omega, by omega⟩)
      clear hs1 hs2
      go_wp2_with fail
      refine (code_Num.calls kn (fun k => w.heap.size ≤ k ∧ k ≠ gm) u6 _ _ _ w wr B5.out O5.out HKN.out).mono ?_; rintro e w6 ⟨v7, rfl, ho, hb, hkp⟩; have B6 := Aside0.mk hb; have O6 := Aside0.mk (row_on ho (blk_lt BK5.out) B5.out.size); have BK6 := Aside0.mk (blk_on BK5.out hkp); clear ho hb hkp
      go_wp2_with fail
      go_roundg (gk - 1)
      case measure => have := HI.out.2.1; omega
      case rel => exact ⟨5, rfl, ⟨by omega, by have := HI.out.2.1; omega, fun x hx => by rw [HTK.out] at hx; exact (List.mem_append.mp hx).elim (HI.out.2.2 x) (fun q => by rw [List.mem_singleton.mp q]; exact HSM.out)⟩, O6, BK6, B6⟩
    by_cases hi5 : i = 5
    · subst hi5
      have d1 : decide ((5 : Int) < 7) = true := by decide
      have hd : (head m)[5]'(show 5 < 7 by decide) = m.f4 := rfl
      have hnx := menc_next (l := head m) (i := 5) (show 5 < 7 by decide)
      rw [hd] at hnx
      have hix : I64 (m.f4) := WI.out.1 _ (by rw [← hd]; exact List.getElem_mem _)
      have HTK := Aside0.mk (show (head m).take 6 = (head m).take 5 ++ [m.f4] from rfl)
      have HMM := Aside0.mk (show m.f4 ∈ head m by rw [← hd]; exact List.getElem_mem _)
      obtain ⟨kn, hkn⟩ := num_at (l0 ++ menc ((head m).take 5)) (m.f4) hix (by have := HE1.out 5; have := HL0.out; rw [List.length_append]; omega)
      rw [List.append_assoc, ← hnx] at hkn
      have HKN := Aside0.mk hkn
      clear hd hnx hix hkn
      have hidx := idx_5 m.f0 m.f1.f0 m.f1.f1 m.f2 m.f3 m.f4 m.f5
      by_cases hs1 : m.f4 < 0
      · have t1 : decide (m.f4 < 0) = true := decide_eq_true hs1
        have HW := Aside0.mk (show wcode m = 1 by rw [HWC.out, if_neg (fun q => by have := q.1 _ HMM.out; unfold small at this; omega)])
        clear hs1
        go_wp2_with fail
        go_ret2
        exact ⟨B5.out, .inl ⟨by rw [HW.out]; rfl, by rw [HW.out]; decide⟩⟩
      have t1 : decide (m.f4 < 0) = false := decide_eq_false hs1
      by_cases hs2 : m.f4 > 1073741824
      · have t2 : decide (m.f4 > 1073741824) = true := decide_eq_true hs2
        have t3 : decide (1073741824 < m.f4) = true := decide_eq_true hs2
        have HW := Aside0.mk (show wcode m = 1 by rw [HWC.out, if_neg (fun q => by have := q.1 _ HMM.out; unfold small at this; omega)])
        clear hs1 hs2
        go_wp2_with fail
        go_ret2
        exact ⟨B5.out, .inl ⟨by rw [HW.out]; rfl, by rw [HW.out]; decide⟩⟩
      have t2 : decide (m.f4 > 1073741824) = false := decide_eq_false hs2
      have t3 : decide (1073741824 < m.f4) = false := decide_eq_false hs2
      have HSM := Aside0.mk (show small (m.f4) from ⟨by omega, by omega⟩)
      clear hs1 hs2
      go_wp2_with fail
      refine (code_Num.calls kn (fun k => w.heap.size ≤ k ∧ k ≠ gm) u6 _ _ _ w wr B5.out O5.out HKN.out).mono ?_; rintro e w6 ⟨v7, rfl, ho, hb, hkp⟩; have B6 := Aside0.mk hb; have O6 := Aside0.mk (row_on ho (blk_lt BK5.out) B5.out.size); have BK6 := Aside0.mk (blk_on BK5.out hkp); clear ho hb hkp
      go_wp2_with fail
      go_roundg (gk - 1)
      case measure => have := HI.out.2.1; omega
      case rel => exact ⟨6, rfl, ⟨by omega, by have := HI.out.2.1; omega, fun x hx => by rw [HTK.out] at hx; exact (List.mem_append.mp hx).elim (HI.out.2.2 x) (fun q => by rw [List.mem_singleton.mp q]; exact HSM.out)⟩, O6, BK6, B6⟩
    by_cases hi6 : i = 6
    · subst hi6
      have d1 : decide ((6 : Int) < 7) = true := by decide
      have hd : (head m)[6]'(show 6 < 7 by decide) = m.f5 := rfl
      have hnx := menc_next (l := head m) (i := 6) (show 6 < 7 by decide)
      rw [hd] at hnx
      have hix : I64 (m.f5) := WI.out.1 _ (by rw [← hd]; exact List.getElem_mem _)
      have HTK := Aside0.mk (show (head m).take 7 = (head m).take 6 ++ [m.f5] from rfl)
      have HMM := Aside0.mk (show m.f5 ∈ head m by rw [← hd]; exact List.getElem_mem _)
      obtain ⟨kn, hkn⟩ := num_at (l0 ++ menc ((head m).take 6)) (m.f5) hix (by have := HE1.out 6; have := HL0.out; rw [List.length_append]; omega)
      rw [List.append_assoc, ← hnx] at hkn
      have HKN := Aside0.mk hkn
      clear hd hnx hix hkn
      have hidx := idx_6 m.f0 m.f1.f0 m.f1.f1 m.f2 m.f3 m.f4 m.f5
      by_cases hs1 : m.f5 < 0
      · have t1 : decide (m.f5 < 0) = true := decide_eq_true hs1
        have HW := Aside0.mk (show wcode m = 1 by rw [HWC.out, if_neg (fun q => by have := q.1 _ HMM.out; unfold small at this; omega)])
        clear hs1
        go_wp2_with fail
        go_ret2
        exact ⟨B5.out, .inl ⟨by rw [HW.out]; rfl, by rw [HW.out]; decide⟩⟩
      have t1 : decide (m.f5 < 0) = false := decide_eq_false hs1
      by_cases hs2 : m.f5 > 1073741824
      · have t2 : decide (m.f5 > 1073741824) = true := decide_eq_true hs2
        have t3 : decide (1073741824 < m.f5) = true := decide_eq_true hs2
        have HW := Aside0.mk (show wcode m = 1 by rw [HWC.out, if_neg (fun q => by have := q.1 _ HMM.out; unfold small at this; omega)])
        clear hs1 hs2
        go_wp2_with fail
        go_ret2
        exact ⟨B5.out, .inl ⟨by rw [HW.out]; rfl, by rw [HW.out]; decide⟩⟩
      have t2 : decide (m.f5 > 1073741824) = false := decide_eq_false hs2
      have t3 : decide (1073741824 < m.f5) = false := decide_eq_false hs2
      have HSM := Aside0.mk (show small (m.f5) from ⟨by omega, by omega⟩)
      clear hs1 hs2
      go_wp2_with fail
      refine (code_Num.calls kn (fun k => w.heap.size ≤ k ∧ k ≠ gm) u6 _ _ _ w wr B5.out O5.out HKN.out).mono ?_; rintro e w6 ⟨v7, rfl, ho, hb, hkp⟩; have B6 := Aside0.mk hb; have O6 := Aside0.mk (row_on ho (blk_lt BK5.out) B5.out.size); have BK6 := Aside0.mk (blk_on BK5.out hkp); clear ho hb hkp
      go_wp2_with fail
      go_roundg (gk - 1)
      case measure => have := HI.out.2.1; omega
      case rel => exact ⟨7, rfl, ⟨by omega, by have := HI.out.2.1; omega, fun x hx => by rw [HTK.out] at hx; exact (List.mem_append.mp hx).elim (HI.out.2.2 x) (fun q => by rw [List.mem_singleton.mp q]; exact HSM.out)⟩, O6, BK6, B6⟩
    obtain rfl : i = 7 := by have := HI.out; omega
    have d1 : decide ((7 : Int) < 7) = false := by decide
    have d2 : decide (((7 : Nat) : Int) < 7) = false := by decide
    have HSH := Aside0.mk (show ∀ x ∈ head m, small x from HI.out.2.2)
    have o5 := O5.out
    rw [show (head m).take 7 = head m from rfl] at o5
    have O5b := Aside0.mk o5
    have HE1b := Aside0.mk (show (menc (head m)).length ≤ 70 from HE1.out 7)
    clear hi0 hi1 hi2 hi3 hi4 hi5 hi6 o5
    obtain ⟨kA, hkA⟩ := num_at (l0 ++ menc (head m)) m.f6 WI.out.2.1 (by have := HE1b.out; have := HL0.out; rw [List.length_append]; omega)
    obtain ⟨L1, hL1⟩ : ∃ x, x = l0 ++ menc (head m) ++ enc m.f6 := ⟨_, rfl⟩
    have hl1 : L1.length ≤ 900080 := by rw [hL1, List.length_append, List.length_append]; have := HE1b.out; have := HL0.out; have := Pure.Code.enc_len WI.out.2.1; omega
    have hkB := bool_at L1 m.f7 (by omega)
    obtain ⟨L2, hL2⟩ : ∃ x, x = L1 ++ [b01 m.f7] := ⟨_, rfl⟩
    have hl2 : L2.length ≤ 900081 := by rw [hL2, List.length_append, List.length_singleton]; omega
    obtain ⟨kC, hkC⟩ := num_at L2 (m.f8.length : Int) ⟨by omega, by have := HL8.out; omega⟩ (by omega)
    obtain ⟨L3, hL3⟩ : ∃ x, x = L2 ++ enc (m.f8.length : Int) := ⟨_, rfl⟩
    have hl3 : L3.length ≤ 900091 := by rw [hL3, List.length_append]; have := Pure.Code.enc_len (n := (m.f8.length : Int)) ⟨by omega, by have := HL8.out; omega⟩; omega
    rw [← hL1] at hkA
    rw [← hL2] at hkB
    rw [← hL3] at hkC
    have HKA := Aside0.mk hkA; have HKB := Aside0.mk hkB; have HKC := Aside0.mk hkC; have HLL3 := Aside0.mk hl3
    have HL1e := Aside0.mk hL1; have HL2e := Aside0.mk hL2; have HL3e := Aside0.mk hL3
    clear hkA hkB hkC hl1 hl2 hl3 hL1 hL2 hL3
    go_wp2_with fail
    refine start_ (n := 8) (S := fun w' => w'.cell? ⟨gm, 7, none⟩ = some (.int .i64 m.f6) ∧ w'.cell? ⟨gm, 8, none⟩ = some (.bool m.f7)) (ds := []) #[false, false, false, false, false, false, false, false] (by kernel_rfl) rfl rfl ⟨(blk_cell (blk_drew BK5.out) 7).trans rfl, (blk_cell (blk_drew BK5.out) 8).trans rfl⟩ (fun hHeld => ?_)
    refine pure_ (i := 0) (N := some 66) (v := ?_) (a' := ?_) #[true, false, false, false, false, false, false, false] rfl rfl (by kernel_rfl) (fun _ _ _ h => h) (Or.inl ⟨by rfl, ?_⟩) ?_ ?_
    rotate_left
    · intro w'
      go_simp
      with_reducible rfl
    rotate_left
    · simp only [Act.put, List.setIfInBounds_toArray, List.set_cons_zero, List.set_cons_succ, i64_w, i32_w]
      rfl
    refine pure_ (i := 1) (N := some 67) (v := ?_) (a' := ?_) #[true, true, false, false, false, false, false, false] rfl rfl (by kernel_rfl) (fun _ _ _ h => h) (Or.inl ⟨by rfl, ?_⟩) ?_ ?_
    rotate_left
    · intro w'
      go_simp
      with_reducible rfl
    rotate_left
    · simp only [Act.put, List.setIfInBounds_toArray, List.set_cons_zero, List.set_cons_succ, i64_w, i32_w]
      rfl
    refine pure_ (i := 4) (N := some 70) (v := ?_) (a' := ?_) #[true, true, false, false, true, false, false, false] rfl rfl (by kernel_rfl) (fun _ _ _ h => h) (Or.inl ⟨by rfl, ?_⟩) ?_ ?_
    rotate_left
    · intro w'
      go_simp
      with_reducible rfl
    rotate_left
    · simp only [Act.put, List.setIfInBounds_toArray, List.set_cons_zero, List.set_cons_succ, i64_w, i32_w]
      rfl
    refine take_ (i := 2) (N := some 68) (v := ?_) (a' := ?_) #[true, true, true, false, true, false, false, false] rfl rfl (by kernel_rfl) (fun _ _ _ h => h) (Or.inl ⟨by rfl, ?_⟩) hHeld ?_ ?_
    rotate_left
    · rintro w' ⟨s0, s1⟩
      go_simp
      with_reducible rfl
    rotate_left
    · simp only [Act.put, List.setIfInBounds_toArray, List.set_cons_zero, List.set_cons_succ, i64_w, i32_w]
      rfl
    refine take_ (i := 5) (N := some 71) (v := ?_) (a' := ?_) #[true, true, true, false, true, true, false, false] rfl rfl (by kernel_rfl) (fun _ _ _ h => h) (Or.inl ⟨by rfl, ?_⟩) hHeld ?_ ?_
    rotate_left
    · rintro w' ⟨s0, s1⟩
      go_simp
      with_reducible rfl
    rotate_left
    · simp only [Act.put, List.setIfInBounds_toArray, List.set_cons_zero, List.set_cons_succ, i64_w, i32_w]
      rfl
    refine one_ (i := 3) (N := some 69) #[true, true, true, true, true, true, false, false] rfl rfl (by kernel_rfl) (by decide) (fun K hK => ?_)
    refine goes_ Try.func24 (by kernel_rfl) rfl #[u6, .int .i64 m.f6] (by rfl) rfl rfl (by simp only [List.map_toArray, List.map_cons, List.map_nil]; rfl) ?_
    with_reducible refine (code_Num.calls kA (fun k => w.heap.size ≤ k ∧ k ≠ gm) u6 _ _ _ w wr.drew (below_step B5.out (below_drew (Below.refl _ _))) (Kd.R_drew O5b.out) HKA.out).mono ?_
    rintro e w6 ⟨v7, rfl, ho, hb, hkp⟩
    refine ⟨_, rfl, ?_⟩
    have B6 := Aside0.mk hb
    have O6 := Aside0.mk (row_on ho (blk_lt BK5.out) B5.out.size)
    have BK6 := Aside0.mk (blk_on (blk_drew BK5.out) hkp)
    clear ho hb hkp
    refine hK.out _ _ ⟨(blk_cell BK6.out 7).trans rfl, (blk_cell BK6.out 8).trans rfl⟩ (fun hHeld => ?_)
    clear hK K
    refine norm_ (a' := ?_) ?_ ?_
    rotate_left
    · show Act.put _ (some 69) _ = _
      simp only [Act.put, List.setIfInBounds_toArray, List.set_cons_zero, List.set_cons_succ, i64_w, i32_w]
      rfl
    refine one_ (i := 6) (N := some 72) #[true, true, true, true, true, true, true, false] rfl rfl (by kernel_rfl) (by decide) (fun K hK => ?_)
    refine goes_ Try.func25 (by kernel_rfl) rfl #[v7, .bool m.f7] (by rfl) rfl rfl (by simp only [List.map_toArray, List.map_cons, List.map_nil]; rfl) ?_
    with_reducible refine (code_Bool.calls (fun k => w.heap.size ≤ k ∧ k ≠ gm) v7 _ _ _ w w6 B6.out O6.out HKB.out).mono ?_
    rintro e w7 ⟨v8, rfl, ho, hb, hkp⟩
    refine ⟨_, rfl, ?_⟩
    have B7 := Aside0.mk hb
    have O7 := Aside0.mk (row_on ho (blk_lt BK6.out) B6.out.size)
    have BK7 := Aside0.mk (blk_on BK6.out hkp)
    clear ho hb hkp
    refine hK.out _ _ ⟨(blk_cell BK7.out 7).trans rfl, (blk_cell BK7.out 8).trans rfl⟩ (fun hHeld => ?_)
    clear hK K
    refine norm_ (a' := ?_) ?_ ?_
    rotate_left
    · show Act.put _ (some 72) _ = _
      simp only [Act.put, List.setIfInBounds_toArray, List.set_cons_zero, List.set_cons_succ, i64_w, i32_w]
      rfl
    refine pure_ (i := 7) (N := some 6) (v := ?_) (a' := ?_) #[true, true, true, true, true, true, true, true] rfl rfl (by kernel_rfl) (fun _ _ _ h => h) (Or.inl ⟨by rfl, ?_⟩) ?_ ?_
    rotate_left
    · intro w'
      go_simp
      with_reducible rfl
    rotate_left
    · simp only [Act.put, List.setIfInBounds_toArray, List.set_cons_zero, List.set_cons_succ, i64_w, i32_w]
      rfl
    refine done_ (by kernel_rfl) ?_

    have yc0 : w7.cell? ⟨gm, 0, none⟩ = some (.int .i64 m.f0) := (blk_cell BK7.out 0).trans rfl; have yf0 := blk_frozen BK7.out 0; have yc1 : w7.cell? ⟨gm, 1, none⟩ = some (.int .i64 m.f1.f0) := (blk_cell BK7.out 1).trans rfl; have yf1 := blk_frozen BK7.out 1; have yc2 : w7.cell? ⟨gm, 2, none⟩ = some (.int .i64 m.f1.f1) := (blk_cell BK7.out 2).trans rfl; have yf2 := blk_frozen BK7.out 2; have yc3 : w7.cell? ⟨gm, 3, none⟩ = some (.int .i64 m.f2) := (blk_cell BK7.out 3).trans rfl; have yf3 := blk_frozen BK7.out 3; have yc4 : w7.cell? ⟨gm, 4, none⟩ = some (.int .i64 m.f3) := (blk_cell BK7.out 4).trans rfl; have yf4 := blk_frozen BK7.out 4; have yc5 : w7.cell? ⟨gm, 5, none⟩ = some (.int .i64 m.f4) := (blk_cell BK7.out 5).trans rfl; have yf5 := blk_frozen BK7.out 5; have yc6 : w7.cell? ⟨gm, 6, none⟩ = some (.int .i64 m.f5) := (blk_cell BK7.out 6).trans rfl; have yf6 := blk_frozen BK7.out 6; have yc7 : w7.cell? ⟨gm, 7, none⟩ = some (.int .i64 m.f6) := (blk_cell BK7.out 7).trans rfl; have yf7 := blk_frozen BK7.out 7; have yc8 : w7.cell? ⟨gm, 8, none⟩ = some (.bool m.f7) := (blk_cell BK7.out 8).trans rfl; have yf8 := blk_frozen BK7.out 8; have yc9 : w7.cell? ⟨gm, 9, none⟩ = some (.slice A8 m.f8.length C8) := (blk_cell BK7.out 9).trans rfl; have yf9 := blk_frozen BK7.out 9; have yc10 : w7.cell? ⟨gm, 10, none⟩ = some (.slice A9 m.f9.length C9) := (blk_cell BK7.out 10).trans rfl; have yf10 := blk_frozen BK7.out 10
    go_wp2_with fail
    refine (code_Num.calls kC (fun k => w.heap.size ≤ k ∧ k ≠ gm) v8 _ _ _ w w7 B7.out O7.out HKC.out).mono ?_; rintro e w8 ⟨v9, rfl, ho, hb, hkp⟩; have B8 := Aside0.mk hb; have O8 := Aside0.mk (row_on ho (blk_lt BK7.out) B7.out.size); have BK8 := Aside0.mk (blk_on BK7.out hkp); clear ho hb hkp
    clear yc0 yf0 yc1 yf1 yc2 yf2 yc3 yf3 yc4 yf4 yc5 yf5 yc6 yf6 yc7 yf7 yc8 yf8 yc9 yf9 yc10 yf10
    have yc0 : w8.cell? ⟨gm, 0, none⟩ = some (.int .i64 m.f0) := (blk_cell BK8.out 0).trans rfl; have yf0 := blk_frozen BK8.out 0; have yc1 : w8.cell? ⟨gm, 1, none⟩ = some (.int .i64 m.f1.f0) := (blk_cell BK8.out 1).trans rfl; have yf1 := blk_frozen BK8.out 1; have yc2 : w8.cell? ⟨gm, 2, none⟩ = some (.int .i64 m.f1.f1) := (blk_cell BK8.out 2).trans rfl; have yf2 := blk_frozen BK8.out 2; have yc3 : w8.cell? ⟨gm, 3, none⟩ = some (.int .i64 m.f2) := (blk_cell BK8.out 3).trans rfl; have yf3 := blk_frozen BK8.out 3; have yc4 : w8.cell? ⟨gm, 4, none⟩ = some (.int .i64 m.f3) := (blk_cell BK8.out 4).trans rfl; have yf4 := blk_frozen BK8.out 4; have yc5 : w8.cell? ⟨gm, 5, none⟩ = some (.int .i64 m.f4) := (blk_cell BK8.out 5).trans rfl; have yf5 := blk_frozen BK8.out 5; have yc6 : w8.cell? ⟨gm, 6, none⟩ = some (.int .i64 m.f5) := (blk_cell BK8.out 6).trans rfl; have yf6 := blk_frozen BK8.out 6; have yc7 : w8.cell? ⟨gm, 7, none⟩ = some (.int .i64 m.f6) := (blk_cell BK8.out 7).trans rfl; have yf7 := blk_frozen BK8.out 7; have yc8 : w8.cell? ⟨gm, 8, none⟩ = some (.bool m.f7) := (blk_cell BK8.out 8).trans rfl; have yf8 := blk_frozen BK8.out 8; have yc9 : w8.cell? ⟨gm, 9, none⟩ = some (.slice A8 m.f8.length C8) := (blk_cell BK8.out 9).trans rfl; have yf9 := blk_frozen BK8.out 9; have yc10 : w8.cell? ⟨gm, 10, none⟩ = some (.slice A9 m.f9.length C9) := (blk_cell BK8.out 10).trans rfl; have yf10 := blk_frozen BK8.out 10
    go_wp2_with fail
    go_loopg [6, 81] (m.f8.length + 1) (fun kq v6 v81 w' => ∃ (i : Nat), v81 = .int .i64 (i : Int) ∧ Aside0 (i ≤ m.f8.length ∧ i + kq = m.f8.length + 1 ∧ ∀ x ∈ m.f8.take i, smallL x) ∧ Aside0 (Kd.R (Kd.int .u8) 5 w' w.heap.size (fun k => w.heap.size ≤ k ∧ k ≠ gm) v6 (L3 ++ linesE (m.f8.take i))) ∧ Aside0 (w'.heap[gm]? = some (.cells #[.int .i64 m.f0, .int .i64 m.f1.f0, .int .i64 m.f1.f1, .int .i64 m.f2, .int .i64 m.f3, .int .i64 m.f4, .int .i64 m.f5, .int .i64 m.f6, .bool m.f7, .slice A8 m.f8.length C8, .slice A9 m.f9.length C9] 28 (0, 0))) ∧ Aside0 (Below w.heap.size w w'))
    case atStart => exact ⟨0, rfl, ⟨by omega, by omega, by simp⟩, ⟨by simpa [linesE] using O8.out⟩, BK8, B8⟩
    case round =>
      obtain ⟨i, rfl, HI8, O9, BK9, B9⟩ := hrel
      clear yc0 yf0 yc1 yf1 yc2 yf2 yc3 yf3 yc4 yf4 yc5 yf5 yc6 yf6 yc7 yf7 yc8 yf8 yc9 yf9 yc10 yf10
      by_cases hi : i < m.f8.length
      · have d1 : decide ((i : Int) < (m.f8.length : Int)) = true := decide_eq_true (by omega)
        have hi0 : (0 : Int) ≤ (i : Int) := by omega
        have hi1 : (i : Int) < (m.f8.length : Int) := by omega
        obtain ⟨ad, rfl, hx0, hx1, hx2, hx3⟩ := at_T50 (Kd.C_below HR8.out B9.out) (i : Int) hi0 hi1
        have hre : rd_T50 m.f8 (i : Int) = m.f8[i] := by unfold rd_T50; rw [Int.toNat_natCast, List.getD_eq_getElem?_getD, List.getElem?_eq_getElem hi]; rfl
        have hnx := linesE_next hi
        have htk := (List.take_append_getElem hi).symm
        have hxm : m.f8[i] ∈ m.f8 := List.getElem_mem hi
        rw [← hre] at hnx htk hxm
        obtain ⟨x, hxe⟩ : ∃ x, x = rd_T50 m.f8 (i : Int) := ⟨_, rfl⟩
        rw [← hxe] at hx0 hx1 hx2 hx3 hnx htk hxm
        rw [Int.toNat_natCast] at hx0 hx1 hx2 hx3
        have hwx := WI.out.2.2.1 x hxm
        have hlen := HE2.out i
        have hb_ := HLL3.out
        obtain ⟨kL0, hk0⟩ := num_at (L3 ++ linesE (m.f8.take i)) x.f0.f0 (hwx _ (by simp [lineL])) (by rw [List.length_append]; omega)
        obtain ⟨M1, hM1⟩ : ∃ y, y = L3 ++ linesE (m.f8.take i) ++ enc x.f0.f0 := ⟨_, rfl⟩
        have e0 := Pure.Code.enc_len (hwx x.f0.f0 (by simp [lineL]))
        have l1 : M1.length ≤ 941100 := by rw [hM1, List.length_append, List.length_append]; omega
        obtain ⟨kL1, hk1⟩ := num_at M1 x.f0.f1 (hwx _ (by simp [lineL])) (by omega)
        obtain ⟨M2, hM2⟩ : ∃ y, y = M1 ++ enc x.f0.f1 := ⟨_, rfl⟩
        have e1 := Pure.Code.enc_len (hwx x.f0.f1 (by simp [lineL]))
        have l2 : M2.length ≤ 941110 := by rw [hM2, List.length_append]; omega
        obtain ⟨kL2, hk2⟩ := num_at M2 x.f1 (hwx _ (by simp [lineL])) (by omega)
        obtain ⟨M3, hM3⟩ : ∃ y, y = M2 ++ enc x.f1 := ⟨_, rfl⟩
        have e2 := Pure.Code.enc_len (hwx x.f1 (by simp [lineL]))
        have l3 : M3.length ≤ 941120 := by rw [hM3, List.length_append]; omega
        obtain ⟨kL3, hk3⟩ := num_at M3 x.f2 (hwx _ (by simp [lineL])) (by omega)
        have hM4 : M3 ++ enc x.f2 = L3 ++ linesE (m.f8.take (i + 1)) := by
          rw [hnx, hM3, hM2, hM1]
          simp [lineE, lineL, menc, List.append_assoc]
        rw [← hM1] at hk0
        rw [← hM2] at hk1
        rw [← hM3] at hk2
        rw [hM4] at hk3
        have HKL0 := Aside0.mk hk0; have HKL1 := Aside0.mk hk1; have HKL2 := Aside0.mk hk2; have HKL3 := Aside0.mk hk3
        have HTK := Aside0.mk htk; have HXM := Aside0.mk hxm
        have b2 : wrap64 ((i : Int) + 1) = ((i + 1 : Nat) : Int) := by have := HL8.out; unfold wrap64; omega
        have q1 := eq_true hi0
        have q2 := eq_true hi1
        have q3 : decide ((0 : Int) ≤ (i : Int)) = true := decide_eq_true hi0
        have NK := Aside0.mk (show (i + 1 ≤ m.f8.length ∧ i + 1 + (gk - 1) = m.f8.length + 1) ∧ 0 < gk from nk_ hi HI8.out.2.1)
        clear hi hre hnx htk hxm hxe hwx hlen hb_ e0 e1 e2 l1 l2 l3 hM1 hM2 hM3 hM4 hk0 hk1 hk2 hk3
        by_cases hs0 : x.f0.f0 < 0
        · have t0 : decide (x.f0.f0 < 0) = true := decide_eq_true hs0
          have HW := Aside0.mk (show wcode m = 1 by rw [HWC.out, if_neg (fun q => by have := q.2 _ HXM.out; unfold smallL small at this; omega)])
          clear hs0
          go_wp2_with (first | ((with_reducible refine gate_dst (N := 10) rfl ?_); refine box_event ?hg (N := 10) ?hd (cs := #[.int .i64 0, .int .i64 0, .int .i64 0, .int .i64 0]) (t := 50) ?hr ?_; (case hd => rfl); (case hg => rfl); (case hr => first | (go_simp; done) | (go_simp; rfl)); intro gl hg w10 hbox hb; have B10 := Aside0.mk (below_step B9.out hb); have O10 := Aside0.mk (Kd.R_mono (ok' := fun k => (w.heap.size ≤ k ∧ k ≠ gm) ∧ k ≠ gl) (Kd.R_below (Kd.R_bound O9.out) hb) (fun k hk => ⟨hk.1, fun e => by subst e; rw [hg] at hk; exact absurd hk.2.2.1 (Nat.lt_irrefl _)⟩)); have BK10 := Aside0.mk (blk_below BK9.out hb); have LK10 := Aside0.mk hbox; have GL := Aside0.mk (show w.heap.size ≤ gl ∧ gm ≠ gl from ⟨by rw [hg]; exact B9.out.size, by rw [hg]; exact Nat.ne_of_lt (blk_lt BK9.out)⟩); have zc0 : w10.cell? ⟨gl, 0, none⟩ = some (.int .i64 0) := (blk_cell LK10.out 0).trans rfl; have zf0 := blk_frozen LK10.out 0; have zc1 : w10.cell? ⟨gl, 1, none⟩ = some (.int .i64 0) := (blk_cell LK10.out 1).trans rfl; have zf1 := blk_frozen LK10.out 1; have zc2 : w10.cell? ⟨gl, 2, none⟩ = some (.int .i64 0) := (blk_cell LK10.out 2).trans rfl; have zf2 := blk_frozen LK10.out 2; have zc3 : w10.cell? ⟨gl, 3, none⟩ = some (.int .i64 0) := (blk_cell LK10.out 3).trans rfl; have zf3 := blk_frozen LK10.out 3; clear hb hg hbox) | ((with_reducible refine gate_dst (N := 85) rfl ?_); have B11 := Aside0.mk (set4_below B10.out GL.out.1 (.int .i64 x.f0.f0) (.int .i64 x.f0.f1) (.int .i64 x.f1) (.int .i64 x.f2)); have O11 := Aside0.mk (Kd.R_kept O10.out (set4_kept w10 gl (.int .i64 x.f0.f0) (.int .i64 x.f0.f1) (.int .i64 x.f1) (.int .i64 x.f2)) (fun k hk e => hk.2 e)); have BK11 := Aside0.mk (((set4_kept w10 gl (.int .i64 x.f0.f0) (.int .i64 x.f0.f1) (.int .i64 x.f1) (.int .i64 x.f2)).2 gm (blk_lt BK10.out) GL.out.2).trans BK10.out); have LK11 := Aside0.mk (set4_blk LK10.out (.int .i64 x.f0.f0) (.int .i64 x.f0.f1) (.int .i64 x.f1) (.int .i64 x.f2)); clear B10 O10 BK10 LK10 zc0 zf0 zc1 zf1 zc2 zf2 zc3 zf3; unfold set4 at B11 O11 BK11 LK11; generalize ((((w10.setCell ⟨gl, 0, none⟩ (.int .i64 x.f0.f0)).setCell ⟨gl, 1, none⟩ (.int .i64 x.f0.f1)).setCell ⟨gl, 2, none⟩ (.int .i64 x.f1)).setCell ⟨gl, 3, none⟩ (.int .i64 x.f2)) = wz at B11 O11 BK11 LK11 ⊢; have lc0 : wz.cell? ⟨gl, 0, none⟩ = some (.int .i64 x.f0.f0) := (blk_cell LK11.out 0).trans rfl; have lf0 := blk_frozen LK11.out 0; have lc1 : wz.cell? ⟨gl, 1, none⟩ = some (.int .i64 x.f0.f1) := (blk_cell LK11.out 1).trans rfl; have lf1 := blk_frozen LK11.out 1; have lc2 : wz.cell? ⟨gl, 2, none⟩ = some (.int .i64 x.f1) := (blk_cell LK11.out 2).trans rfl; have lf2 := blk_frozen LK11.out 2; have lc3 : wz.cell? ⟨gl, 3, none⟩ = some (.int .i64 x.f2) := (blk_cell LK11.out 3).trans rfl; have lf3 := blk_frozen LK11.out 3))
          go_ret2
          exact ⟨B11.out, .inl ⟨by rw [HW.out]; rfl, by rw [HW.out]; decide⟩⟩
        have t0 : decide (x.f0.f0 < 0) = false := decide_eq_false hs0
        by_cases hs1 : x.f0.f1 < 0
        · have t1 : decide (x.f0.f1 < 0) = true := decide_eq_true hs1
          have HW := Aside0.mk (show wcode m = 1 by rw [HWC.out, if_neg (fun q => by have := q.2 _ HXM.out; unfold smallL small at this; omega)])
          clear hs0 hs1
          go_wp2_with (first | ((with_reducible refine gate_dst (N := 10) rfl ?_); refine box_event ?hg (N := 10) ?hd (cs := #[.int .i64 0, .int .i64 0, .int .i64 0, .int .i64 0]) (t := 50) ?hr ?_; (case hd => rfl); (case hg => rfl); (case hr => first | (go_simp; done) | (go_simp; rfl)); intro gl hg w10 hbox hb; have B10 := Aside0.mk (below_step B9.out hb); have O10 := Aside0.mk (Kd.R_mono (ok' := fun k => (w.heap.size ≤ k ∧ k ≠ gm) ∧ k ≠ gl) (Kd.R_below (Kd.R_bound O9.out) hb) (fun k hk => ⟨hk.1, fun e => by subst e; rw [hg] at hk; exact absurd hk.2.2.1 (Nat.lt_irrefl _)⟩)); have BK10 := Aside0.mk (blk_below BK9.out hb); have LK10 := Aside0.mk hbox; have GL := Aside0.mk (show w.heap.size ≤ gl ∧ gm ≠ gl from ⟨by rw [hg]; exact B9.out.size, by rw [hg]; exact Nat.ne_of_lt (blk_lt BK9.out)⟩); have zc0 : w10.cell? ⟨gl, 0, none⟩ = some (.int .i64 0) := (blk_cell LK10.out 0).trans rfl; have zf0 := blk_frozen LK10.out 0; have zc1 : w10.cell? ⟨gl, 1, none⟩ = some (.int .i64 0) := (blk_cell LK10.out 1).trans rfl; have zf1 := blk_frozen LK10.out 1; have zc2 : w10.cell? ⟨gl, 2, none⟩ = some (.int .i64 0) := (blk_cell LK10.out 2).trans rfl; have zf2 := blk_frozen LK10.out 2; have zc3 : w10.cell? ⟨gl, 3, none⟩ = some (.int .i64 0) := (blk_cell LK10.out 3).trans rfl; have zf3 := blk_frozen LK10.out 3; clear hb hg hbox) | ((with_reducible refine gate_dst (N := 85) rfl ?_); have B11 := Aside0.mk (set4_below B10.out GL.out.1 (.int .i64 x.f0.f0) (.int .i64 x.f0.f1) (.int .i64 x.f1) (.int .i64 x.f2)); have O11 := Aside0.mk (Kd.R_kept O10.out (set4_kept w10 gl (.int .i64 x.f0.f0) (.int .i64 x.f0.f1) (.int .i64 x.f1) (.int .i64 x.f2)) (fun k hk e => hk.2 e)); have BK11 := Aside0.mk (((set4_kept w10 gl (.int .i64 x.f0.f0) (.int .i64 x.f0.f1) (.int .i64 x.f1) (.int .i64 x.f2)).2 gm (blk_lt BK10.out) GL.out.2).trans BK10.out); have LK11 := Aside0.mk (set4_blk LK10.out (.int .i64 x.f0.f0) (.int .i64 x.f0.f1) (.int .i64 x.f1) (.int .i64 x.f2)); clear B10 O10 BK10 LK10 zc0 zf0 zc1 zf1 zc2 zf2 zc3 zf3; unfold set4 at B11 O11 BK11 LK11; generalize ((((w10.setCell ⟨gl, 0, none⟩ (.int .i64 x.f0.f0)).setCell ⟨gl, 1, none⟩ (.int .i64 x.f0.f1)).setCell ⟨gl, 2, none⟩ (.int .i64 x.f1)).setCell ⟨gl, 3, none⟩ (.int .i64 x.f2)) = wz at B11 O11 BK11 LK11 ⊢; have lc0 : wz.cell? ⟨gl, 0, none⟩ = some (.int .i64 x.f0.f0) := (blk_cell LK11.out 0).trans rfl; have lf0 := blk_frozen LK11.out 0; have lc1 : wz.cell? ⟨gl, 1, none⟩ = some (.int .i64 x.f0.f1) := (blk_cell LK11.out 1).trans rfl; have lf1 := blk_frozen LK11.out 1; have lc2 : wz.cell? ⟨gl, 2, none⟩ = some (.int .i64 x.f1) := (blk_cell LK11.out 2).trans rfl; have lf2 := blk_frozen LK11.out 2; have lc3 : wz.cell? ⟨gl, 3, none⟩ = some (.int .i64 x.f2) := (blk_cell LK11.out 3).trans rfl; have lf3 := blk_frozen LK11.out 3))
          go_ret2
          exact ⟨B11.out, .inl ⟨by rw [HW.out]; rfl, by rw [HW.out]; decide⟩⟩
        have t1 : decide (x.f0.f1 < 0) = false := decide_eq_false hs1
        by_cases hs2 : x.f1 < 0
        · have t2 : decide (x.f1 < 0) = true := decide_eq_true hs2
          have HW := Aside0.mk (show wcode m = 1 by rw [HWC.out, if_neg (fun q => by have := q.2 _ HXM.out; unfold smallL small at this; omega)])
          clear hs0 hs1 hs2
          go_wp2_with (first | ((with_reducible refine gate_dst (N := 10) rfl ?_); refine box_event ?hg (N := 10) ?hd (cs := #[.int .i64 0, .int .i64 0, .int .i64 0, .int .i64 0]) (t := 50) ?hr ?_; (case hd => rfl); (case hg => rfl); (case hr => first | (go_simp; done) | (go_simp; rfl)); intro gl hg w10 hbox hb; have B10 := Aside0.mk (below_step B9.out hb); have O10 := Aside0.mk (Kd.R_mono (ok' := fun k => (w.heap.size ≤ k ∧ k ≠ gm) ∧ k ≠ gl) (Kd.R_below (Kd.R_bound O9.out) hb) (fun k hk => ⟨hk.1, fun e => by subst e; rw [hg] at hk; exact absurd hk.2.2.1 (Nat.lt_irrefl _)⟩)); have BK10 := Aside0.mk (blk_below BK9.out hb); have LK10 := Aside0.mk hbox; have GL := Aside0.mk (show w.heap.size ≤ gl ∧ gm ≠ gl from ⟨by rw [hg]; exact B9.out.size, by rw [hg]; exact Nat.ne_of_lt (blk_lt BK9.out)⟩); have zc0 : w10.cell? ⟨gl, 0, none⟩ = some (.int .i64 0) := (blk_cell LK10.out 0).trans rfl; have zf0 := blk_frozen LK10.out 0; have zc1 : w10.cell? ⟨gl, 1, none⟩ = some (.int .i64 0) := (blk_cell LK10.out 1).trans rfl; have zf1 := blk_frozen LK10.out 1; have zc2 : w10.cell? ⟨gl, 2, none⟩ = some (.int .i64 0) := (blk_cell LK10.out 2).trans rfl; have zf2 := blk_frozen LK10.out 2; have zc3 : w10.cell? ⟨gl, 3, none⟩ = some (.int .i64 0) := (blk_cell LK10.out 3).trans rfl; have zf3 := blk_frozen LK10.out 3; clear hb hg hbox) | ((with_reducible refine gate_dst (N := 85) rfl ?_); have B11 := Aside0.mk (set4_below B10.out GL.out.1 (.int .i64 x.f0.f0) (.int .i64 x.f0.f1) (.int .i64 x.f1) (.int .i64 x.f2)); have O11 := Aside0.mk (Kd.R_kept O10.out (set4_kept w10 gl (.int .i64 x.f0.f0) (.int .i64 x.f0.f1) (.int .i64 x.f1) (.int .i64 x.f2)) (fun k hk e => hk.2 e)); have BK11 := Aside0.mk (((set4_kept w10 gl (.int .i64 x.f0.f0) (.int .i64 x.f0.f1) (.int .i64 x.f1) (.int .i64 x.f2)).2 gm (blk_lt BK10.out) GL.out.2).trans BK10.out); have LK11 := Aside0.mk (set4_blk LK10.out (.int .i64 x.f0.f0) (.int .i64 x.f0.f1) (.int .i64 x.f1) (.int .i64 x.f2)); clear B10 O10 BK10 LK10 zc0 zf0 zc1 zf1 zc2 zf2 zc3 zf3; unfold set4 at B11 O11 BK11 LK11; generalize ((((w10.setCell ⟨gl, 0, none⟩ (.int .i64 x.f0.f0)).setCell ⟨gl, 1, none⟩ (.int .i64 x.f0.f1)).setCell ⟨gl, 2, none⟩ (.int .i64 x.f1)).setCell ⟨gl, 3, none⟩ (.int .i64 x.f2)) = wz at B11 O11 BK11 LK11 ⊢; have lc0 : wz.cell? ⟨gl, 0, none⟩ = some (.int .i64 x.f0.f0) := (blk_cell LK11.out 0).trans rfl; have lf0 := blk_frozen LK11.out 0; have lc1 : wz.cell? ⟨gl, 1, none⟩ = some (.int .i64 x.f0.f1) := (blk_cell LK11.out 1).trans rfl; have lf1 := blk_frozen LK11.out 1; have lc2 : wz.cell? ⟨gl, 2, none⟩ = some (.int .i64 x.f1) := (blk_cell LK11.out 2).trans rfl; have lf2 := blk_frozen LK11.out 2; have lc3 : wz.cell? ⟨gl, 3, none⟩ = some (.int .i64 x.f2) := (blk_cell LK11.out 3).trans rfl; have lf3 := blk_frozen LK11.out 3))
          go_ret2
          exact ⟨B11.out, .inl ⟨by rw [HW.out]; rfl, by rw [HW.out]; decide⟩⟩
        have t2 : decide (x.f1 < 0) = false := decide_eq_false hs2
        by_cases hs3 : x.f0.f0 > 1073741824
        · have t3 : decide (x.f0.f0 > 1073741824) = true := decide_eq_true hs3
          have u3 : decide (1073741824 < x.f0.f0) = true := decide_eq_true hs3
          have HW := Aside0.mk (show wcode m = 1 by rw [HWC.out, if_neg (fun q => by have := q.2 _ HXM.out; unfold smallL small at this; omega)])
          clear hs0 hs1 hs2 hs3
          go_wp2_with (first | ((with_reducible refine gate_dst (N := 10) rfl ?_); refine box_event ?hg (N := 10) ?hd (cs := #[.int .i64 0, .int .i64 0, .int .i64 0, .int .i64 0]) (t := 50) ?hr ?_; (case hd => rfl); (case hg => rfl); (case hr => first | (go_simp; done) | (go_simp; rfl)); intro gl hg w10 hbox hb; have B10 := Aside0.mk (below_step B9.out hb); have O10 := Aside0.mk (Kd.R_mono (ok' := fun k => (w.heap.size ≤ k ∧ k ≠ gm) ∧ k ≠ gl) (Kd.R_below (Kd.R_bound O9.out) hb) (fun k hk => ⟨hk.1, fun e => by subst e; rw [hg] at hk; exact absurd hk.2.2.1 (Nat.lt_irrefl _)⟩)); have BK10 := Aside0.mk (blk_below BK9.out hb); have LK10 := Aside0.mk hbox; have GL := Aside0.mk (show w.heap.size ≤ gl ∧ gm ≠ gl from ⟨by rw [hg]; exact B9.out.size, by rw [hg]; exact Nat.ne_of_lt (blk_lt BK9.out)⟩); have zc0 : w10.cell? ⟨gl, 0, none⟩ = some (.int .i64 0) := (blk_cell LK10.out 0).trans rfl; have zf0 := blk_frozen LK10.out 0; have zc1 : w10.cell? ⟨gl, 1, none⟩ = some (.int .i64 0) := (blk_cell LK10.out 1).trans rfl; have zf1 := blk_frozen LK10.out 1; have zc2 : w10.cell? ⟨gl, 2, none⟩ = some (.int .i64 0) := (blk_cell LK10.out 2).trans rfl; have zf2 := blk_frozen LK10.out 2; have zc3 : w10.cell? ⟨gl, 3, none⟩ = some (.int .i64 0) := (blk_cell LK10.out 3).trans rfl; have zf3 := blk_frozen LK10.out 3; clear hb hg hbox) | ((with_reducible refine gate_dst (N := 85) rfl ?_); have B11 := Aside0.mk (set4_below B10.out GL.out.1 (.int .i64 x.f0.f0) (.int .i64 x.f0.f1) (.int .i64 x.f1) (.int .i64 x.f2)); have O11 := Aside0.mk (Kd.R_kept O10.out (set4_kept w10 gl (.int .i64 x.f0.f0) (.int .i64 x.f0.f1) (.int .i64 x.f1) (.int .i64 x.f2)) (fun k hk e => hk.2 e)); have BK11 := Aside0.mk (((set4_kept w10 gl (.int .i64 x.f0.f0) (.int .i64 x.f0.f1) (.int .i64 x.f1) (.int .i64 x.f2)).2 gm (blk_lt BK10.out) GL.out.2).trans BK10.out); have LK11 := Aside0.mk (set4_blk LK10.out (.int .i64 x.f0.f0) (.int .i64 x.f0.f1) (.int .i64 x.f1) (.int .i64 x.f2)); clear B10 O10 BK10 LK10 zc0 zf0 zc1 zf1 zc2 zf2 zc3 zf3; unfold set4 at B11 O11 BK11 LK11; generalize ((((w10.setCell ⟨gl, 0, none⟩ (.int .i64 x.f0.f0)).setCell ⟨gl, 1, none⟩ (.int .i64 x.f0.f1)).setCell ⟨gl, 2, none⟩ (.int .i64 x.f1)).setCell ⟨gl, 3, none⟩ (.int .i64 x.f2)) = wz at B11 O11 BK11 LK11 ⊢; have lc0 : wz.cell? ⟨gl, 0, none⟩ = some (.int .i64 x.f0.f0) := (blk_cell LK11.out 0).trans rfl; have lf0 := blk_frozen LK11.out 0; have lc1 : wz.cell? ⟨gl, 1, none⟩ = some (.int .i64 x.f0.f1) := (blk_cell LK11.out 1).trans rfl; have lf1 := blk_frozen LK11.out 1; have lc2 : wz.cell? ⟨gl, 2, none⟩ = some (.int .i64 x.f1) := (blk_cell LK11.out 2).trans rfl; have lf2 := blk_frozen LK11.out 2; have lc3 : wz.cell? ⟨gl, 3, none⟩ = some (.int .i64 x.f2) := (blk_cell LK11.out 3).trans rfl; have lf3 := blk_frozen LK11.out 3))
          go_ret2
          exact ⟨B11.out, .inl ⟨by rw [HW.out]; rfl, by rw [HW.out]; decide⟩⟩
        have t3 : decide (x.f0.f0 > 1073741824) = false := decide_eq_false hs3
        have u3 : decide (1073741824 < x.f0.f0) = false := decide_eq_false hs3
        by_cases hs4 : x.f0.f1 > 1073741824
        · have t4 : decide (x.f0.f1 > 1073741824) = true := decide_eq_true hs4
          have u4 : decide (1073741824 < x.f0.f1) = true := decide_eq_true hs4
          have HW := Aside0.mk (show wcode m = 1 by rw [HWC.out, if_neg (fun q => by have := q.2 _ HXM.out; unfold smallL small at this; omega)])
          clear hs0 hs1 hs2 hs3 hs4
          go_wp2_with (first | ((with_reducible refine gate_dst (N := 10) rfl ?_); refine box_event ?hg (N := 10) ?hd (cs := #[.int .i64 0, .int .i64 0, .int .i64 0, .int .i64 0]) (t := 50) ?hr ?_; (case hd => rfl); (case hg => rfl); (case hr => first | (go_simp; done) | (go_simp; rfl)); intro gl hg w10 hbox hb; have B10 := Aside0.mk (below_step B9.out hb); have O10 := Aside0.mk (Kd.R_mono (ok' := fun k => (w.heap.size ≤ k ∧ k ≠ gm) ∧ k ≠ gl) (Kd.R_below (Kd.R_bound O9.out) hb) (fun k hk => ⟨hk.1, fun e => by subst e; rw [hg] at hk; exact absurd hk.2.2.1 (Nat.lt_irrefl _)⟩)); have BK10 := Aside0.mk (blk_below BK9.out hb); have LK10 := Aside0.mk hbox; have GL := Aside0.mk (show w.heap.size ≤ gl ∧ gm ≠ gl from ⟨by rw [hg]; exact B9.out.size, by rw [hg]; exact Nat.ne_of_lt (blk_lt BK9.out)⟩); have zc0 : w10.cell? ⟨gl, 0, none⟩ = some (.int .i64 0) := (blk_cell LK10.out 0).trans rfl; have zf0 := blk_frozen LK10.out 0; have zc1 : w10.cell? ⟨gl, 1, none⟩ = some (.int .i64 0) := (blk_cell LK10.out 1).trans rfl; have zf1 := blk_frozen LK10.out 1; have zc2 : w10.cell? ⟨gl, 2, none⟩ = some (.int .i64 0) := (blk_cell LK10.out 2).trans rfl; have zf2 := blk_frozen LK10.out 2; have zc3 : w10.cell? ⟨gl, 3, none⟩ = some (.int .i64 0) := (blk_cell LK10.out 3).trans rfl; have zf3 := blk_frozen LK10.out 3; clear hb hg hbox) | ((with_reducible refine gate_dst (N := 85) rfl ?_); have B11 := Aside0.mk (set4_below B10.out GL.out.1 (.int .i64 x.f0.f0) (.int .i64 x.f0.f1) (.int .i64 x.f1) (.int .i64 x.f2)); have O11 := Aside0.mk (Kd.R_kept O10.out (set4_kept w10 gl (.int .i64 x.f0.f0) (.int .i64 x.f0.f1) (.int .i64 x.f1) (.int .i64 x.f2)) (fun k hk e => hk.2 e)); have BK11 := Aside0.mk (((set4_kept w10 gl (.int .i64 x.f0.f0) (.int .i64 x.f0.f1) (.int .i64 x.f1) (.int .i64 x.f2)).2 gm (blk_lt BK10.out) GL.out.2).trans BK10.out); have LK11 := Aside0.mk (set4_blk LK10.out (.int .i64 x.f0.f0) (.int .i64 x.f0.f1) (.int .i64 x.f1) (.int .i64 x.f2)); clear B10 O10 BK10 LK10 zc0 zf0 zc1 zf1 zc2 zf2 zc3 zf3; unfold set4 at B11 O11 BK11 LK11; generalize ((((w10.setCell ⟨gl, 0, none⟩ (.int .i64 x.f0.f0)).setCell ⟨gl, 1, none⟩ (.int .i64 x.f0.f1)).setCell ⟨gl, 2, none⟩ (.int .i64 x.f1)).setCell ⟨gl, 3, none⟩ (.int .i64 x.f2)) = wz at B11 O11 BK11 LK11 ⊢; have lc0 : wz.cell? ⟨gl, 0, none⟩ = some (.int .i64 x.f0.f0) := (blk_cell LK11.out 0).trans rfl; have lf0 := blk_frozen LK11.out 0; have lc1 : wz.cell? ⟨gl, 1, none⟩ = some (.int .i64 x.f0.f1) := (blk_cell LK11.out 1).trans rfl; have lf1 := blk_frozen LK11.out 1; have lc2 : wz.cell? ⟨gl, 2, none⟩ = some (.int .i64 x.f1) := (blk_cell LK11.out 2).trans rfl; have lf2 := blk_frozen LK11.out 2; have lc3 : wz.cell? ⟨gl, 3, none⟩ = some (.int .i64 x.f2) := (blk_cell LK11.out 3).trans rfl; have lf3 := blk_frozen LK11.out 3))
          go_ret2
          exact ⟨B11.out, .inl ⟨by rw [HW.out]; rfl, by rw [HW.out]; decide⟩⟩
        have t4 : decide (x.f0.f1 > 1073741824) = false := decide_eq_false hs4
        have u4 : decide (1073741824 < x.f0.f1) = false := decide_eq_false hs4
        by_cases hs5 : x.f1 > 1073741824
        · have t5 : decide (x.f1 > 1073741824) = true := decide_eq_true hs5
          have u5 : decide (1073741824 < x.f1) = true := decide_eq_true hs5
          have HW := Aside0.mk (show wcode m = 1 by rw [HWC.out, if_neg (fun q => by have := q.2 _ HXM.out; unfold smallL small at this; omega)])
          clear hs0 hs1 hs2 hs3 hs4 hs5
          go_wp2_with (first | ((with_reducible refine gate_dst (N := 10) rfl ?_); refine box_event ?hg (N := 10) ?hd (cs := #[.int .i64 0, .int .i64 0, .int .i64 0, .int .i64 0]) (t := 50) ?hr ?_; (case hd => rfl); (case hg => rfl); (case hr => first | (go_simp; done) | (go_simp; rfl)); intro gl hg w10 hbox hb; have B10 := Aside0.mk (below_step B9.out hb); have O10 := Aside0.mk (Kd.R_mono (ok' := fun k => (w.heap.size ≤ k ∧ k ≠ gm) ∧ k ≠ gl) (Kd.R_below (Kd.R_bound O9.out) hb) (fun k hk => ⟨hk.1, fun e => by subst e; rw [hg] at hk; exact absurd hk.2.2.1 (Nat.lt_irrefl _)⟩)); have BK10 := Aside0.mk (blk_below BK9.out hb); have LK10 := Aside0.mk hbox; have GL := Aside0.mk (show w.heap.size ≤ gl ∧ gm ≠ gl from ⟨by rw [hg]; exact B9.out.size, by rw [hg]; exact Nat.ne_of_lt (blk_lt BK9.out)⟩); have zc0 : w10.cell? ⟨gl, 0, none⟩ = some (.int .i64 0) := (blk_cell LK10.out 0).trans rfl; have zf0 := blk_frozen LK10.out 0; have zc1 : w10.cell? ⟨gl, 1, none⟩ = some (.int .i64 0) := (blk_cell LK10.out 1).trans rfl; have zf1 := blk_frozen LK10.out 1; have zc2 : w10.cell? ⟨gl, 2, none⟩ = some (.int .i64 0) := (blk_cell LK10.out 2).trans rfl; have zf2 := blk_frozen LK10.out 2; have zc3 : w10.cell? ⟨gl, 3, none⟩ = some (.int .i64 0) := (blk_cell LK10.out 3).trans rfl; have zf3 := blk_frozen LK10.out 3; clear hb hg hbox) | ((with_reducible refine gate_dst (N := 85) rfl ?_); have B11 := Aside0.mk (set4_below B10.out GL.out.1 (.int .i64 x.f0.f0) (.int .i64 x.f0.f1) (.int .i64 x.f1) (.int .i64 x.f2)); have O11 := Aside0.mk (Kd.R_kept O10.out (set4_kept w10 gl (.int .i64 x.f0.f0) (.int .i64 x.f0.f1) (.int .i64 x.f1) (.int .i64 x.f2)) (fun k hk e => hk.2 e)); have BK11 := Aside0.mk (((set4_kept w10 gl (.int .i64 x.f0.f0) (.int .i64 x.f0.f1) (.int .i64 x.f1) (.int .i64 x.f2)).2 gm (blk_lt BK10.out) GL.out.2).trans BK10.out); have LK11 := Aside0.mk (set4_blk LK10.out (.int .i64 x.f0.f0) (.int .i64 x.f0.f1) (.int .i64 x.f1) (.int .i64 x.f2)); clear B10 O10 BK10 LK10 zc0 zf0 zc1 zf1 zc2 zf2 zc3 zf3; unfold set4 at B11 O11 BK11 LK11; generalize ((((w10.setCell ⟨gl, 0, none⟩ (.int .i64 x.f0.f0)).setCell ⟨gl, 1, none⟩ (.int .i64 x.f0.f1)).setCell ⟨gl, 2, none⟩ (.int .i64 x.f1)).setCell ⟨gl, 3, none⟩ (.int .i64 x.f2)) = wz at B11 O11 BK11 LK11 ⊢; have lc0 : wz.cell? ⟨gl, 0, none⟩ = some (.int .i64 x.f0.f0) := (blk_cell LK11.out 0).trans rfl; have lf0 := blk_frozen LK11.out 0; have lc1 : wz.cell? ⟨gl, 1, none⟩ = some (.int .i64 x.f0.f1) := (blk_cell LK11.out 1).trans rfl; have lf1 := blk_frozen LK11.out 1; have lc2 : wz.cell? ⟨gl, 2, none⟩ = some (.int .i64 x.f1) := (blk_cell LK11.out 2).trans rfl; have lf2 := blk_frozen LK11.out 2; have lc3 : wz.cell? ⟨gl, 3, none⟩ = some (.int .i64 x.f2) := (blk_cell LK11.out 3).trans rfl; have lf3 := blk_frozen LK11.out 3))
          go_ret2
          exact ⟨B11.out, .inl ⟨by rw [HW.out]; rfl, by rw [HW.out]; decide⟩⟩
        have t5 : decide (x.f1 > 1073741824) = false := decide_eq_false hs5
        have u5 : decide (1073741824 < x.f1) = false := decide_eq_false hs5
        have HSM := Aside0.mk (show smallL x from ⟨⟨by omega, by omega⟩, ⟨by omega, by omega⟩, ⟨by omega, by omega⟩⟩)
        clear hs0 hs1 hs2 hs3 hs4 hs5
        go_wp2_with (first | ((with_reducible refine gate_dst (N := 10) rfl ?_); refine box_event ?hg (N := 10) ?hd (cs := #[.int .i64 0, .int .i64 0, .int .i64 0, .int .i64 0]) (t := 50) ?hr ?_; (case hd => rfl); (case hg => rfl); (case hr => first | (go_simp; done) | (go_simp; rfl)); intro gl hg w10 hbox hb; have B10 := Aside0.mk (below_step B9.out hb); have O10 := Aside0.mk (Kd.R_mono (ok' := fun k => (w.heap.size ≤ k ∧ k ≠ gm) ∧ k ≠ gl) (Kd.R_below (Kd.R_bound O9.out) hb) (fun k hk => ⟨hk.1, fun e => by subst e; rw [hg] at hk; exact absurd hk.2.2.1 (Nat.lt_irrefl _)⟩)); have BK10 := Aside0.mk (blk_below BK9.out hb); have LK10 := Aside0.mk hbox; have GL := Aside0.mk (show w.heap.size ≤ gl ∧ gm ≠ gl from ⟨by rw [hg]; exact B9.out.size, by rw [hg]; exact Nat.ne_of_lt (blk_lt BK9.out)⟩); have zc0 : w10.cell? ⟨gl, 0, none⟩ = some (.int .i64 0) := (blk_cell LK10.out 0).trans rfl; have zf0 := blk_frozen LK10.out 0; have zc1 : w10.cell? ⟨gl, 1, none⟩ = some (.int .i64 0) := (blk_cell LK10.out 1).trans rfl; have zf1 := blk_frozen LK10.out 1; have zc2 : w10.cell? ⟨gl, 2, none⟩ = some (.int .i64 0) := (blk_cell LK10.out 2).trans rfl; have zf2 := blk_frozen LK10.out 2; have zc3 : w10.cell? ⟨gl, 3, none⟩ = some (.int .i64 0) := (blk_cell LK10.out 3).trans rfl; have zf3 := blk_frozen LK10.out 3; clear hb hg hbox) | ((with_reducible refine gate_dst (N := 85) rfl ?_); have B11 := Aside0.mk (set4_below B10.out GL.out.1 (.int .i64 x.f0.f0) (.int .i64 x.f0.f1) (.int .i64 x.f1) (.int .i64 x.f2)); have O11 := Aside0.mk (Kd.R_kept O10.out (set4_kept w10 gl (.int .i64 x.f0.f0) (.int .i64 x.f0.f1) (.int .i64 x.f1) (.int .i64 x.f2)) (fun k hk e => hk.2 e)); have BK11 := Aside0.mk (((set4_kept w10 gl (.int .i64 x.f0.f0) (.int .i64 x.f0.f1) (.int .i64 x.f1) (.int .i64 x.f2)).2 gm (blk_lt BK10.out) GL.out.2).trans BK10.out); have LK11 := Aside0.mk (set4_blk LK10.out (.int .i64 x.f0.f0) (.int .i64 x.f0.f1) (.int .i64 x.f1) (.int .i64 x.f2)); clear B10 O10 BK10 LK10 zc0 zf0 zc1 zf1 zc2 zf2 zc3 zf3; unfold set4 at B11 O11 BK11 LK11; generalize ((((w10.setCell ⟨gl, 0, none⟩ (.int .i64 x.f0.f0)).setCell ⟨gl, 1, none⟩ (.int .i64 x.f0.f1)).setCell ⟨gl, 2, none⟩ (.int .i64 x.f1)).setCell ⟨gl, 3, none⟩ (.int .i64 x.f2)) = wz at B11 O11 BK11 LK11 ⊢; have lc0 : wz.cell? ⟨gl, 0, none⟩ = some (.int .i64 x.f0.f0) := (blk_cell LK11.out 0).trans rfl; have lf0 := blk_frozen LK11.out 0; have lc1 : wz.cell? ⟨gl, 1, none⟩ = some (.int .i64 x.f0.f1) := (blk_cell LK11.out 1).trans rfl; have lf1 := blk_frozen LK11.out 1; have lc2 : wz.cell? ⟨gl, 2, none⟩ = some (.int .i64 x.f1) := (blk_cell LK11.out 2).trans rfl; have lf2 := blk_frozen LK11.out 2; have lc3 : wz.cell? ⟨gl, 3, none⟩ = some (.int .i64 x.f2) := (blk_cell LK11.out 3).trans rfl; have lf3 := blk_frozen LK11.out 3))
        clear lc0 lf0 lc1 lf1 lc2 lf2 lc3 lf3
        refine start_ (n := 16) (S := fun w' => w'.cell? ⟨gl, 0, none⟩ = some (.int .i64 x.f0.f0) ∧ w'.cell? ⟨gl, 1, none⟩ = some (.int .i64 x.f0.f1) ∧ w'.cell? ⟨gl, 2, none⟩ = some (.int .i64 x.f1) ∧ w'.cell? ⟨gl, 3, none⟩ = some (.int .i64 x.f2)) (ds := []) #[false, false, false, false, false, false, false, false, false, false, false, false, false, false, false, false] (by kernel_rfl) rfl rfl ⟨(blk_cell (blk_drew LK11.out) 0).trans rfl, (blk_cell (blk_drew LK11.out) 1).trans rfl, (blk_cell (blk_drew LK11.out) 2).trans rfl, (blk_cell (blk_drew LK11.out) 3).trans rfl⟩ (fun hHeld => ?_)
        refine pure_ (i := 0) (N := some 117) (v := ?_) (a' := ?_) #[true, false, false, false, false, false, false, false, false, false, false, false, false, false, false, false] rfl rfl (by kernel_rfl) (fun _ _ _ h => h) (Or.inl ⟨by rfl, ?_⟩) ?_ ?_
        rotate_left
        · intro w'
          go_simp
          with_reducible rfl
        rotate_left
        · simp only [Act.put, List.setIfInBounds_toArray, List.set_cons_zero, List.set_cons_succ, i64_w, i32_w]
          rfl
        refine pure_ (i := 1) (N := some 118) (v := ?_) (a' := ?_) #[true, true, false, false, false, false, false, false, false, false, false, false, false, false, false, false] rfl rfl (by kernel_rfl) (fun _ _ _ h => h) (Or.inl ⟨by rfl, ?_⟩) ?_ ?_
        rotate_left
        · intro w'
          go_simp
          with_reducible rfl
        rotate_left
        · simp only [Act.put, List.setIfInBounds_toArray, List.set_cons_zero, List.set_cons_succ, i64_w, i32_w]
          rfl
        refine pure_ (i := 2) (N := some 119) (v := ?_) (a' := ?_) #[true, true, true, false, false, false, false, false, false, false, false, false, false, false, false, false] rfl rfl (by kernel_rfl) (fun _ _ _ h => h) (Or.inl ⟨by rfl, ?_⟩) ?_ ?_
        rotate_left
        · intro w'
          go_simp
          with_reducible rfl
        rotate_left
        · simp only [Act.put, List.setIfInBounds_toArray, List.set_cons_zero, List.set_cons_succ, i64_w, i32_w]
          rfl
        refine pure_ (i := 5) (N := some 122) (v := ?_) (a' := ?_) #[true, true, true, false, false, true, false, false, false, false, false, false, false, false, false, false] rfl rfl (by kernel_rfl) (fun _ _ _ h => h) (Or.inl ⟨by rfl, ?_⟩) ?_ ?_
        rotate_left
        · intro w'
          go_simp
          with_reducible rfl
        rotate_left
        · simp only [Act.put, List.setIfInBounds_toArray, List.set_cons_zero, List.set_cons_succ, i64_w, i32_w]
          rfl
        refine pure_ (i := 6) (N := some 123) (v := ?_) (a' := ?_) #[true, true, true, false, false, true, true, false, false, false, false, false, false, false, false, false] rfl rfl (by kernel_rfl) (fun _ _ _ h => h) (Or.inl ⟨by rfl, ?_⟩) ?_ ?_
        rotate_left
        · intro w'
          go_simp
          with_reducible rfl
        rotate_left
        · simp only [Act.put, List.setIfInBounds_toArray, List.set_cons_zero, List.set_cons_succ, i64_w, i32_w]
          rfl
        refine pure_ (i := 9) (N := some 126) (v := ?_) (a' := ?_) #[true, true, true, false, false, true, true, false, false, true, false, false, false, false, false, false] rfl rfl (by kernel_rfl) (fun _ _ _ h => h) (Or.inl ⟨by rfl, ?_⟩) ?_ ?_
        rotate_left
        · intro w'
          go_simp
          with_reducible rfl
        rotate_left
        · simp only [Act.put, List.setIfInBounds_toArray, List.set_cons_zero, List.set_cons_succ, i64_w, i32_w]
          rfl
        refine pure_ (i := 12) (N := some 129) (v := ?_) (a' := ?_) #[true, true, true, false, false, true, true, false, false, true, false, false, true, false, false, false] rfl rfl (by kernel_rfl) (fun _ _ _ h => h) (Or.inl ⟨by rfl, ?_⟩) ?_ ?_
        rotate_left
        · intro w'
          go_simp
          with_reducible rfl
        rotate_left
        · simp only [Act.put, List.setIfInBounds_toArray, List.set_cons_zero, List.set_cons_succ, i64_w, i32_w]
          rfl
        refine take_ (i := 3) (N := some 120) (v := ?_) (a' := ?_) #[true, true, true, true, false, true, true, false, false, true, false, false, true, false, false, false] rfl rfl (by kernel_rfl) (fun _ _ _ h => h) (Or.inl ⟨by rfl, ?_⟩) hHeld ?_ ?_
        rotate_left
        · rintro w' ⟨s0, s1, s2, s3⟩
          go_simp
          with_reducible rfl
        rotate_left
        · simp only [Act.put, List.setIfInBounds_toArray, List.set_cons_zero, List.set_cons_succ, i64_w, i32_w]
          rfl
        refine take_ (i := 7) (N := some 124) (v := ?_) (a' := ?_) #[true, true, true, true, false, true, true, true, false, true, false, false, true, false, false, false] rfl rfl (by kernel_rfl) (fun _ _ _ h => h) (Or.inl ⟨by rfl, ?_⟩) hHeld ?_ ?_
        rotate_left
        · rintro w' ⟨s0, s1, s2, s3⟩
          go_simp
          with_reducible rfl
        rotate_left
        · simp only [Act.put, List.setIfInBounds_toArray, List.set_cons_zero, List.set_cons_succ, i64_w, i32_w]
          rfl
        refine take_ (i := 10) (N := some 127) (v := ?_) (a' := ?_) #[true, true, true, true, false, true, true, true, false, true, true, false, true, false, false, false] rfl rfl (by kernel_rfl) (fun _ _ _ h => h) (Or.inl ⟨by rfl, ?_⟩) hHeld ?_ ?_
        rotate_left
        · rintro w' ⟨s0, s1, s2, s3⟩
          go_simp
          with_reducible rfl
        rotate_left
        · simp only [Act.put, List.setIfInBounds_toArray, List.set_cons_zero, List.set_cons_succ, i64_w, i32_w]
          rfl
        refine take_ (i := 13) (N := some 130) (v := ?_) (a' := ?_) #[true, true, true, true, false, true, true, true, false, true, true, false, true, true, false, false] rfl rfl (by kernel_rfl) (fun _ _ _ h => h) (Or.inl ⟨by rfl, ?_⟩) hHeld ?_ ?_
        rotate_left
        · rintro w' ⟨s0, s1, s2, s3⟩
          go_simp
          with_reducible rfl
        rotate_left
        · simp only [Act.put, List.setIfInBounds_toArray, List.set_cons_zero, List.set_cons_succ, i64_w, i32_w]
          rfl
        refine one_ (i := 4) (N := some 121) #[true, true, true, true, true, true, true, true, false, true, true, false, true, true, false, false] rfl rfl (by kernel_rfl) (by decide) (fun K hK => ?_)
        refine goes_ Try.func24 (by kernel_rfl) rfl #[u6, .int .i64 x.f0.f0] (by rfl) rfl rfl (by simp only [List.map_toArray, List.map_cons, List.map_nil]; rfl) ?_
        with_reducible refine (code_Num.calls kL0 (fun k => (w.heap.size ≤ k ∧ k ≠ gm) ∧ k ≠ gl) u6 _ _ _ w wz.drew (below_step B11.out (below_drew (Below.refl _ _))) (Kd.R_drew O11.out) HKL0.out).mono ?_
        rintro e w12 ⟨v12, rfl, ho, hb, hkp⟩
        refine ⟨_, rfl, ?_⟩
        have B12 := Aside0.mk hb
        have O12 := Aside0.mk (row_on2 ho (blk_lt (blk_drew BK11.out)) (blk_lt (blk_drew LK11.out)) ((below_step B11.out (below_drew (Below.refl _ _)))).size)
        have BK12 := Aside0.mk (blk_on2 (blk_drew BK11.out) hkp)
        have LK12 := Aside0.mk (blk_on3 (blk_drew LK11.out) hkp)
        clear ho hb hkp
        refine hK.out _ _ ⟨(blk_cell LK12.out 0).trans rfl, (blk_cell LK12.out 1).trans rfl, (blk_cell LK12.out 2).trans rfl, (blk_cell LK12.out 3).trans rfl⟩ (fun hHeld => ?_)
        clear hK K
        refine norm_ (a' := ?_) ?_ ?_
        rotate_left
        · show Act.put _ (some 121) _ = _
          simp only [Act.put, List.setIfInBounds_toArray, List.set_cons_zero, List.set_cons_succ, i64_w, i32_w]
          rfl
        refine one_ (i := 8) (N := some 125) #[true, true, true, true, true, true, true, true, true, true, true, false, true, true, false, false] rfl rfl (by kernel_rfl) (by decide) (fun K hK => ?_)
        refine goes_ Try.func24 (by kernel_rfl) rfl #[v12, .int .i64 x.f0.f1] (by rfl) rfl rfl (by simp only [List.map_toArray, List.map_cons, List.map_nil]; rfl) ?_
        with_reducible refine (code_Num.calls kL1 (fun k => (w.heap.size ≤ k ∧ k ≠ gm) ∧ k ≠ gl) v12 _ _ _ w w12 B12.out O12.out HKL1.out).mono ?_
        rintro e w13 ⟨v13, rfl, ho, hb, hkp⟩
        refine ⟨_, rfl, ?_⟩
        have B13 := Aside0.mk hb
        have O13 := Aside0.mk (row_on2 ho (blk_lt BK12.out) (blk_lt LK12.out) (B12.out).size)
        have BK13 := Aside0.mk (blk_on2 BK12.out hkp)
        have LK13 := Aside0.mk (blk_on3 LK12.out hkp)
        clear ho hb hkp
        refine hK.out _ _ ⟨(blk_cell LK13.out 0).trans rfl, (blk_cell LK13.out 1).trans rfl, (blk_cell LK13.out 2).trans rfl, (blk_cell LK13.out 3).trans rfl⟩ (fun hHeld => ?_)
        clear hK K
        refine norm_ (a' := ?_) ?_ ?_
        rotate_left
        · show Act.put _ (some 125) _ = _
          simp only [Act.put, List.setIfInBounds_toArray, List.set_cons_zero, List.set_cons_succ, i64_w, i32_w]
          rfl
        refine one_ (i := 11) (N := some 128) #[true, true, true, true, true, true, true, true, true, true, true, true, true, true, false, false] rfl rfl (by kernel_rfl) (by decide) (fun K hK => ?_)
        refine goes_ Try.func24 (by kernel_rfl) rfl #[v13, .int .i64 x.f1] (by rfl) rfl rfl (by simp only [List.map_toArray, List.map_cons, List.map_nil]; rfl) ?_
        with_reducible refine (code_Num.calls kL2 (fun k => (w.heap.size ≤ k ∧ k ≠ gm) ∧ k ≠ gl) v13 _ _ _ w w13 B13.out O13.out HKL2.out).mono ?_
        rintro e w14 ⟨v14, rfl, ho, hb, hkp⟩
        refine ⟨_, rfl, ?_⟩
        have B14 := Aside0.mk hb
        have O14 := Aside0.mk (row_on2 ho (blk_lt BK13.out) (blk_lt LK13.out) (B13.out).size)
        have BK14 := Aside0.mk (blk_on2 BK13.out hkp)
        have LK14 := Aside0.mk (blk_on3 LK13.out hkp)
        clear ho hb hkp
        refine hK.out _ _ ⟨(blk_cell LK14.out 0).trans rfl, (blk_cell LK14.out 1).trans rfl, (blk_cell LK14.out 2).trans rfl, (blk_cell LK14.out 3).trans rfl⟩ (fun hHeld => ?_)
        clear hK K
        refine norm_ (a' := ?_) ?_ ?_
        rotate_left
        · show Act.put _ (some 128) _ = _
          simp only [Act.put, List.setIfInBounds_toArray, List.set_cons_zero, List.set_cons_succ, i64_w, i32_w]
          rfl
        refine one_ (i := 14) (N := some 131) #[true, true, true, true, true, true, true, true, true, true, true, true, true, true, true, false] rfl rfl (by kernel_rfl) (by decide) (fun K hK => ?_)
        refine goes_ Try.func24 (by kernel_rfl) rfl #[v14, .int .i64 x.f2] (by rfl) rfl rfl (by simp only [List.map_toArray, List.map_cons, List.map_nil]; rfl) ?_
        with_reducible refine (code_Num.calls kL3 (fun k => (w.heap.size ≤ k ∧ k ≠ gm) ∧ k ≠ gl) v14 _ _ _ w w14 B14.out O14.out HKL3.out).mono ?_
        rintro e w15 ⟨v15, rfl, ho, hb, hkp⟩
        refine ⟨_, rfl, ?_⟩
        have B15 := Aside0.mk hb
        have O15 := Aside0.mk (row_on2 ho (blk_lt BK14.out) (blk_lt LK14.out) (B14.out).size)
        have BK15 := Aside0.mk (blk_on2 BK14.out hkp)
        have LK15 := Aside0.mk (blk_on3 LK14.out hkp)
        clear ho hb hkp
        refine hK.out _ _ ⟨(blk_cell LK15.out 0).trans rfl, (blk_cell LK15.out 1).trans rfl, (blk_cell LK15.out 2).trans rfl, (blk_cell LK15.out 3).trans rfl⟩ (fun hHeld => ?_)
        clear hK K
        refine norm_ (a' := ?_) ?_ ?_
        rotate_left
        · show Act.put _ (some 131) _ = _
          simp only [Act.put, List.setIfInBounds_toArray, List.set_cons_zero, List.set_cons_succ, i64_w, i32_w]
          rfl
        refine pure_ (i := 15) (N := some 6) (v := ?_) (a' := ?_) #[true, true, true, true, true, true, true, true, true, true, true, true, true, true, true, true] rfl rfl (by kernel_rfl) (fun _ _ _ h => h) (Or.inl ⟨by rfl, ?_⟩) ?_ ?_
        rotate_left
        · intro w'
          go_simp
          with_reducible rfl
        rotate_left
        · simp only [Act.put, List.setIfInBounds_toArray, List.set_cons_zero, List.set_cons_succ, i64_w, i32_w]
          rfl
        refine done_ (by kernel_rfl) ?_

        go_wp2_with fail
        go_roundg (gk - 1)
        case measure => have := NK.out.2; omega
        case rel => exact ⟨i + 1, (by first | rw [b2] | exact congrArg _ (by omega)), ⟨NK.out.1.1, NK.out.1.2, fun y hy => by rw [HTK.out] at hy; exact (List.mem_append.mp hy).elim (HI8.out.2.2 y) (fun q => by rw [List.mem_singleton.mp q]; exact HSM.out)⟩, ⟨Kd.R_mono O15.out (fun k hk => hk.1)⟩, BK15, B15⟩
      · have d1 : decide ((i : Int) < (m.f8.length : Int)) = false := decide_eq_false (by omega)
        obtain rfl : i = m.f8.length := by have := HI8.out; omega
        clear hi
        have o9 := O9.out
        have hs8 := HI8.out.2.2
        have he2 := HE2.out m.f8.length
        rw [List.take_length] at o9 hs8 he2
        have O9b := Aside0.mk o9
        have HW0 := Aside0.mk (show wcode m = 0 by rw [HWC.out, if_pos ⟨HSH.out, hs8⟩])
        obtain ⟨L5, hL5⟩ : ∃ x, x = L3 ++ linesE m.f8 := ⟨_, rfl⟩
        have hl5 : L5.length ≤ 941051 := by rw [hL5, List.length_append]; have := HLL3.out; omega
        obtain ⟨kD, hkD⟩ := num_at L5 (m.f9.length : Int) ⟨by omega, by have := HL9.out; omega⟩ (by omega)
        obtain ⟨L4, hL4⟩ : ∃ x, x = L5 ++ enc (m.f9.length : Int) := ⟨_, rfl⟩
        have hl4 : L4.length ≤ 941061 := by rw [hL4, List.length_append]; have := Pure.Code.enc_len (n := (m.f9.length : Int)) ⟨by omega, by have := HL9.out; omega⟩; omega
        rw [← hL4] at hkD
        rw [← hL5] at O9b
        have HKD := Aside0.mk hkD; have HLL4 := Aside0.mk hl4; have HL4e := Aside0.mk hL4; have HL5e := Aside0.mk hL5
        clear o9 hs8 he2 hkD hl4 hl5 hL4 hL5
        have yc0 : wr.cell? ⟨gm, 0, none⟩ = some (.int .i64 m.f0) := (blk_cell BK9.out 0).trans rfl; have yf0 := blk_frozen BK9.out 0; have yc1 : wr.cell? ⟨gm, 1, none⟩ = some (.int .i64 m.f1.f0) := (blk_cell BK9.out 1).trans rfl; have yf1 := blk_frozen BK9.out 1; have yc2 : wr.cell? ⟨gm, 2, none⟩ = some (.int .i64 m.f1.f1) := (blk_cell BK9.out 2).trans rfl; have yf2 := blk_frozen BK9.out 2; have yc3 : wr.cell? ⟨gm, 3, none⟩ = some (.int .i64 m.f2) := (blk_cell BK9.out 3).trans rfl; have yf3 := blk_frozen BK9.out 3; have yc4 : wr.cell? ⟨gm, 4, none⟩ = some (.int .i64 m.f3) := (blk_cell BK9.out 4).trans rfl; have yf4 := blk_frozen BK9.out 4; have yc5 : wr.cell? ⟨gm, 5, none⟩ = some (.int .i64 m.f4) := (blk_cell BK9.out 5).trans rfl; have yf5 := blk_frozen BK9.out 5; have yc6 : wr.cell? ⟨gm, 6, none⟩ = some (.int .i64 m.f5) := (blk_cell BK9.out 6).trans rfl; have yf6 := blk_frozen BK9.out 6; have yc7 : wr.cell? ⟨gm, 7, none⟩ = some (.int .i64 m.f6) := (blk_cell BK9.out 7).trans rfl; have yf7 := blk_frozen BK9.out 7; have yc8 : wr.cell? ⟨gm, 8, none⟩ = some (.bool m.f7) := (blk_cell BK9.out 8).trans rfl; have yf8 := blk_frozen BK9.out 8; have yc9 : wr.cell? ⟨gm, 9, none⟩ = some (.slice A8 m.f8.length C8) := (blk_cell BK9.out 9).trans rfl; have yf9 := blk_frozen BK9.out 9; have yc10 : wr.cell? ⟨gm, 10, none⟩ = some (.slice A9 m.f9.length C9) := (blk_cell BK9.out 10).trans rfl; have yf10 := blk_frozen BK9.out 10
        go_wp2_with fail
        refine (code_Num.calls kD (fun k => w.heap.size ≤ k ∧ k ≠ gm) u6 _ _ _ w wr B9.out O9b.out HKD.out).mono ?_; rintro e w10 ⟨v10, rfl, ho, hb, hkp⟩; have B10 := Aside0.mk hb; have O10 := Aside0.mk (row_on ho (blk_lt BK9.out) B9.out.size); have BK10 := Aside0.mk (blk_on BK9.out hkp); clear ho hb hkp
        clear yc0 yf0 yc1 yf1 yc2 yf2 yc3 yf3 yc4 yf4 yc5 yf5 yc6 yf6 yc7 yf7 yc8 yf8 yc9 yf9 yc10 yf10
        have yc0 : w10.cell? ⟨gm, 0, none⟩ = some (.int .i64 m.f0) := (blk_cell BK10.out 0).trans rfl; have yf0 := blk_frozen BK10.out 0; have yc1 : w10.cell? ⟨gm, 1, none⟩ = some (.int .i64 m.f1.f0) := (blk_cell BK10.out 1).trans rfl; have yf1 := blk_frozen BK10.out 1; have yc2 : w10.cell? ⟨gm, 2, none⟩ = some (.int .i64 m.f1.f1) := (blk_cell BK10.out 2).trans rfl; have yf2 := blk_frozen BK10.out 2; have yc3 : w10.cell? ⟨gm, 3, none⟩ = some (.int .i64 m.f2) := (blk_cell BK10.out 3).trans rfl; have yf3 := blk_frozen BK10.out 3; have yc4 : w10.cell? ⟨gm, 4, none⟩ = some (.int .i64 m.f3) := (blk_cell BK10.out 4).trans rfl; have yf4 := blk_frozen BK10.out 4; have yc5 : w10.cell? ⟨gm, 5, none⟩ = some (.int .i64 m.f4) := (blk_cell BK10.out 5).trans rfl; have yf5 := blk_frozen BK10.out 5; have yc6 : w10.cell? ⟨gm, 6, none⟩ = some (.int .i64 m.f5) := (blk_cell BK10.out 6).trans rfl; have yf6 := blk_frozen BK10.out 6; have yc7 : w10.cell? ⟨gm, 7, none⟩ = some (.int .i64 m.f6) := (blk_cell BK10.out 7).trans rfl; have yf7 := blk_frozen BK10.out 7; have yc8 : w10.cell? ⟨gm, 8, none⟩ = some (.bool m.f7) := (blk_cell BK10.out 8).trans rfl; have yf8 := blk_frozen BK10.out 8; have yc9 : w10.cell? ⟨gm, 9, none⟩ = some (.slice A8 m.f8.length C8) := (blk_cell BK10.out 9).trans rfl; have yf9 := blk_frozen BK10.out 9; have yc10 : w10.cell? ⟨gm, 10, none⟩ = some (.slice A9 m.f9.length C9) := (blk_cell BK10.out 10).trans rfl; have yf10 := blk_frozen BK10.out 10
        go_wp2_with fail
        go_loopg [6, 141] (m.f9.length + 1) (fun kq v6 v141 w' => ∃ (i : Nat), v141 = .int .i64 (i : Int) ∧ Aside0 (i ≤ m.f9.length ∧ i + kq = m.f9.length + 1) ∧ Aside0 (Kd.R (Kd.int .u8) 5 w' w.heap.size (fun k => w.heap.size ≤ k ∧ k ≠ gm) v6 (L4 ++ menc (m.f9.take i))) ∧ Aside0 (gm < w'.heap.size) ∧ Aside0 (Below w.heap.size w w'))
        case atStart => exact ⟨0, rfl, ⟨by omega, by omega⟩, ⟨by simpa [menc] using O10.out⟩, ⟨blk_lt BK10.out⟩, B10⟩
        case round =>
          obtain ⟨j, rfl, HJ, O11, GM11, B11⟩ := hrel
          clear yc0 yf0 yc1 yf1 yc2 yf2 yc3 yf3 yc4 yf4 yc5 yf5 yc6 yf6 yc7 yf7 yc8 yf8 yc9 yf9 yc10 yf10
          by_cases hj : j < m.f9.length
          · have d5 : decide ((j : Int) < (m.f9.length : Int)) = true := decide_eq_true (by omega)
            have hj0 : (0 : Int) ≤ (j : Int) := by omega
            have hj1 : (j : Int) < (m.f9.length : Int) := by omega
            obtain ⟨ad, rfl, hx⟩ := Kd.at_int (Kd.C_below HR9.out B11.out) (j : Int) hj0 hj1
            rw [Int.toNat_natCast] at hx
            have hre : rd m.f9 (j : Int) = m.f9[j] := by simp [rd, hj]
            have hnx := menc_next hj
            have hxi : I64 (m.f9[j]) := WI.out.2.2.2 _ (List.getElem_mem hj)
            rw [← hre] at hnx hxi
            obtain ⟨x, hxe⟩ : ∃ x, x = rd m.f9 (j : Int) := ⟨_, rfl⟩
            rw [← hxe] at hx hnx hxi
            have hlen := HE3.out j
            have hb_ := HLL4.out
            obtain ⟨kn, hkn⟩ := num_at (L4 ++ menc (m.f9.take j)) x hxi (by rw [List.length_append]; omega)
            rw [List.append_assoc, ← hnx] at hkn
            have HKN := Aside0.mk hkn
            have b2 : wrap64 ((j : Int) + 1) = ((j + 1 : Nat) : Int) := by have := HL9.out; unfold wrap64; omega
            have q1 := eq_true hj0
            have q2 := eq_true hj1
            have q3 : decide ((0 : Int) ≤ (j : Int)) = true := decide_eq_true hj0
            have NK := Aside0.mk (show (j + 1 ≤ m.f9.length ∧ j + 1 + (gk - 1) = m.f9.length + 1) ∧ 0 < gk from nk_ hj HJ.out.2)
            clear hj hre hnx hxi hxe hlen hb_ hkn
            go_wp2_with fail
            refine (code_Num.calls kn (fun k => w.heap.size ≤ k ∧ k ≠ gm) u6 _ _ _ w wr B11.out O11.out HKN.out).mono ?_; rintro e w12 ⟨v12, rfl, ho, hb, hkp⟩; have B12 := Aside0.mk hb; have O12 := Aside0.mk (row_on ho GM11.out B11.out.size); have GM12 := Aside0.mk (Nat.lt_of_lt_of_le GM11.out hkp.1); clear ho hb hkp
            go_wp2_with fail
            go_roundg (gk - 1)
            case measure => have := NK.out.2; omega
            case rel => exact ⟨j + 1, (by first | rw [b2] | exact congrArg _ (by omega)), ⟨NK.out.1.1, NK.out.1.2⟩, O12, GM12, B12⟩
          · have d5 : decide ((j : Int) < (m.f9.length : Int)) = false := decide_eq_false (by omega)
            obtain rfl : j = m.f9.length := by have := HJ.out; omega
            clear hj
            go_wp2_with fail
            go_ret2
            refine ⟨B11.out, .inr ⟨_, rfl, ?_, HW0.out⟩⟩
            have o11 := Kd.R_mono (ok' := fun _ => True) O11.out (fun _ _ => trivial)
            rw [List.take_length, HL4e.out, HL5e.out, HL3e.out, HL2e.out, HL1e.out] at o11
            have e : l0 ++ menc (head m) ++ enc m.f6 ++ [b01 m.f7] ++ enc (m.f8.length : Int) ++ linesE m.f8 ++ enc (m.f9.length : Int) ++ menc m.f9 = l0 ++ body m := by simp [body, List.append_assoc]
            rw [e] at o11
            exact o11
end Go.Proofs.Ytgmfafmefafiiaa.M
