/-
  WholeLife, walked by hand: items that live their lives in two books, the same in both.
-/
import Derived.Test.YtianljjmnpdkcaaHLife4
import Derived.Test.YtianljjmnpdkcaaRowWholeLife
import Derived.Test.YtianljjmnpdkcaaMx1
import Derived.Deep.CutBlock
import Derived.Deep.DeepCutAuto
namespace Go.Proofs.Ytianljjmnpdkcaa.Pure
open Go.RowKit Go.Proofs.Ytianljjmnpdkcaa.M Go.Proofs.YtianljjmnpdkcaaW.PrintWords Go.Proofs.YtianljjmnpdkcaaW.PrintLast Go.Proofs.YtianljjmnpdkcaaW.PrintMore
set_option linter.unusedVariables false
set_option linter.unusedSimpArgs false
theorem new_f (a : Int) (h : a = 0 ∨ a = 1) : book_New.f a = some (a, [], [], 0) := by
  unfold book_New.f
  rw [if_neg (by omega), if_neg (by omega)]
theorem item_f : item_New.f 12 0 1 1 0 5 = some (0, 1, 1, 0, 5, 0, 1, 0, 0) := by
  unfold item_New.f
  rw [check_ev]
  rfl
attribute [local go_sem high] neqI
set_option maxHeartbeats 32000000 in
set_option maxRecDepth 100000 in
theorem WholeLife_hand (A0 : Option Addr) (k0 : Nat) (l0 : List S33) (A1 : Option Addr) (k1 : Nat) (l1 : List S38) (w : World) (hr0 : Kd.C k33 w A0 l0.length l0) (hc0 : l0.length ≤ k0) (hr1 : Kd.C k38 w A1 l1.length l1) (hc1 : l1.length ≤ k1) (g0 : l0.length * 64 ≤ 140737488351232 ∧ ∀ x ∈ l0, G33 x) (g1 : l1.length * 24 ≤ 140737488351232 ∧ ∀ x ∈ l1, G38 x) :
    Calls Try.prog 3 #[.slice A0 l0.length k0, .slice A1 l1.length k1] w fun e w' => e = .returned (.bool true) ∧ Below w.heap.size w w' := by
  have B0 := Aside0.mk (Below.refl w.heap.size w)
  have HR0 := Aside0.mk hr0; have HR1 := Aside0.mk hr1
  have HG1 := Aside0.mk g1
  clear hr0 hc0 hr1 hc1 g0 g1
  go_enter Try.func3, Try.ntmps3
  go_upto_region 6 with (first | (go_at_call 4; (with_reducible refine (book_New.calls 0 0 [] [] 0 w (new_f _ (by decide))).mono ?_); rintro x w1 ⟨v1, v2, rfl, hO1, hO2, hb⟩; obtain ⟨A5, c5, e1⟩ := Kd.R_slice hO1; obtain ⟨P5, q5, e2⟩ := Kd.R_slice hO2; subst e1 e2; simp only [List.length_nil] at hO1; have B1 := Aside0.mk (below_step B0.out hb); have R5a := Aside0.mk (Kd.R_mono (ok' := fun k => k < w1.heap.size) (Kd.R_bound hO1) (fun k hk => hk.2.2.1)); clear hb hO1 hO2) | ((with_reducible refine gate_dst (N := 5) rfl ?_); refine box_event ?hg (N := 5) ?hd (cs := #[.int .i64 0, .slice none 0 0, .slice none 0 0]) (t := 26) ?hr ?_; (case hd => rfl); (case hg => rfl); (case hr => first | (go_simp; done) | (go_simp; rfl)); intro g5 hg w2m hbox hb; have ZB := Aside0.mk hb; have ZX := Aside0.mk hbox; have Kw2g := Aside0.mk (show w1.heap.size ≤ g5 from by rw [hg]; exact Nat.le_refl _); have z5zc0 : w2m.cell? ⟨g5, 0, none⟩ = some (.int .i64 0) := (blk_cell ZX.out 0).trans rfl; have z5zf0 := blk_frozen ZX.out 0; have z5zc1 : w2m.cell? ⟨g5, 1, none⟩ = some (.slice none 0 0) := (blk_cell ZX.out 1).trans rfl; have z5zf1 := blk_frozen ZX.out 1; have z5zc2 : w2m.cell? ⟨g5, 2, none⟩ = some (.slice none 0 0) := (blk_cell ZX.out 2).trans rfl; have z5zf2 := blk_frozen ZX.out 2; clear hb hg hbox) | ((with_reducible refine gate_dst (N := 33) rfl ?_); have Bw2 := Aside0.mk (below_setB (below_setB (below_setB ZB.out (p := ⟨g5, 0, none⟩) Kw2g.out (.int .i64 0)) (p := ⟨g5, 1, none⟩) Kw2g.out (.slice A5 0 c5)) (p := ⟨g5, 2, none⟩) Kw2g.out (.slice P5 0 q5)); have Kw2 := Aside0.mk (blk_put (blk_put (blk_put ZX.out 0 (.int .i64 0) (cs' := #[.int .i64 0, .slice none 0 0, .slice none 0 0]) rfl) 1 (.slice A5 0 c5) (cs' := #[.int .i64 0, .slice A5 0 c5, .slice none 0 0]) rfl) 2 (.slice P5 0 q5) (cs' := #[.int .i64 0, .slice A5 0 c5, .slice P5 0 q5]) rfl); clear ZB ZX z5zc0 z5zf0 z5zc1 z5zf1 z5zc2 z5zf2; generalize (((w2m.setCell ⟨g5, 0, none⟩ (.int .i64 0)).setCell ⟨g5, 1, none⟩ (.slice A5 0 c5)).setCell ⟨g5, 2, none⟩ (.slice P5 0 q5)) = w2 at Bw2 Kw2 ⊢; have B2 := Aside0.mk (below_step B1.out Bw2.out); have G5 := Aside0.mk (show w.heap.size ≤ g5 from Nat.le_trans B1.out.size Kw2g.out); have R5b := Aside0.mk (Kd.R_below R5a.out Bw2.out); have K5a := Kw2; ) | (go_at_call 4; (with_reducible refine (book_New.calls 1 1 [] [] 0 w2 (new_f _ (by decide))).mono ?_); rintro x w3 ⟨v1, v2, rfl, hO1, hO2, hb⟩; obtain ⟨A7, c7, e1⟩ := Kd.R_slice hO1; obtain ⟨P7, q7, e2⟩ := Kd.R_slice hO2; subst e1 e2; simp only [List.length_nil] at hO1; have B3 := Aside0.mk (below_step B2.out hb); have R7a := Aside0.mk (Kd.R_lower (Kd.R_mono (ok' := fun k => g5 < k ∧ k < w3.heap.size) (Kd.R_bound hO1) (fun k hk => ⟨Nat.lt_of_lt_of_le (blk_lt K5a.out) hk.2.1, hk.2.2.1⟩)) B2.out.size); have R5c := Aside0.mk (Kd.R_below R5b.out hb); have K5b := Aside0.mk (blk_below K5a.out hb); clear hb hO1 hO2) | ((with_reducible refine gate_dst (N := 7) rfl ?_); refine box_event ?hg (N := 7) ?hd (cs := #[.int .i64 0, .slice none 0 0, .slice none 0 0]) (t := 26) ?hr ?_; (case hd => rfl); (case hg => rfl); (case hr => first | (go_simp; done) | (go_simp; rfl)); intro g7 hg w4m hbox hb; have ZB := Aside0.mk hb; have ZX := Aside0.mk hbox; have Kw4g := Aside0.mk (show w3.heap.size ≤ g7 from by rw [hg]; exact Nat.le_refl _); have z7zc0 : w4m.cell? ⟨g7, 0, none⟩ = some (.int .i64 0) := (blk_cell ZX.out 0).trans rfl; have z7zf0 := blk_frozen ZX.out 0; have z7zc1 : w4m.cell? ⟨g7, 1, none⟩ = some (.slice none 0 0) := (blk_cell ZX.out 1).trans rfl; have z7zf1 := blk_frozen ZX.out 1; have z7zc2 : w4m.cell? ⟨g7, 2, none⟩ = some (.slice none 0 0) := (blk_cell ZX.out 2).trans rfl; have z7zf2 := blk_frozen ZX.out 2; clear hb hg hbox) | ((with_reducible refine gate_dst (N := 37) rfl ?_); have Bw4 := Aside0.mk (below_setB (below_setB (below_setB ZB.out (p := ⟨g7, 0, none⟩) Kw4g.out (.int .i64 1)) (p := ⟨g7, 1, none⟩) Kw4g.out (.slice A7 0 c7)) (p := ⟨g7, 2, none⟩) Kw4g.out (.slice P7 0 q7)); have Kw4 := Aside0.mk (blk_put (blk_put (blk_put ZX.out 0 (.int .i64 1) (cs' := #[.int .i64 1, .slice none 0 0, .slice none 0 0]) rfl) 1 (.slice A7 0 c7) (cs' := #[.int .i64 1, .slice A7 0 c7, .slice none 0 0]) rfl) 2 (.slice P7 0 q7) (cs' := #[.int .i64 1, .slice A7 0 c7, .slice P7 0 q7]) rfl); clear ZB ZX z7zc0 z7zf0 z7zc1 z7zf1 z7zc2 z7zf2; generalize (((w4m.setCell ⟨g7, 0, none⟩ (.int .i64 1)).setCell ⟨g7, 1, none⟩ (.slice A7 0 c7)).setCell ⟨g7, 2, none⟩ (.slice P7 0 q7)) = w4 at Bw4 Kw4 ⊢; have B4 := Aside0.mk (below_step B3.out Bw4.out); have G7 := Aside0.mk (show w.heap.size ≤ g7 ∧ g5 < g7 from ⟨Nat.le_trans B3.out.size Kw4g.out, Nat.lt_of_lt_of_le (blk_lt K5b.out) Kw4g.out⟩); have R7b := Aside0.mk (Kd.R_below R7a.out Bw4.out); have R5d := Aside0.mk (Kd.R_below R5c.out Bw4.out); have K5c := Aside0.mk (blk_below K5b.out Bw4.out); have K7a := Kw4; ) | (go_at_call 5; refine (item_New.calls 12 0 1 1 0 5 0 1 1 0 5 0 1 0 0 w4 item_f).mono ?_; rintro x w5 ⟨rfl, hb⟩; have B5 := Aside0.mk (below_step B4.out hb); have R7c := Aside0.mk (Kd.R_below R7b.out hb); have R5e := Aside0.mk (Kd.R_below R5d.out hb); have K5d := Aside0.mk (blk_below K5c.out hb); have K7b := Aside0.mk (blk_below K7a.out hb); clear hb) | ((with_reducible refine gate_dst (N := 9) rfl ?_); refine box_event ?hg (N := 9) ?hd (cs := #[.int .i64 0, .int .i64 0, .int .i64 0, .int .i64 0, .int .i64 0, .int .i64 0, .int .i64 0, .int .i64 0]) (t := 33) ?hr ?_; (case hd => rfl); (case hg => rfl); (case hr => first | (go_simp; done) | (go_simp; rfl)); intro g9 hg w6m hbox hb; have ZB := Aside0.mk hb; have ZX := Aside0.mk hbox; have Kw6g := Aside0.mk (show w5.heap.size ≤ g9 from by rw [hg]; exact Nat.le_refl _); have nzc0 : w6m.cell? ⟨g9, 0, none⟩ = some (.int .i64 0) := (blk_cell ZX.out 0).trans rfl; have nzf0 := blk_frozen ZX.out 0; have nzc1 : w6m.cell? ⟨g9, 1, none⟩ = some (.int .i64 0) := (blk_cell ZX.out 1).trans rfl; have nzf1 := blk_frozen ZX.out 1; have nzc2 : w6m.cell? ⟨g9, 2, none⟩ = some (.int .i64 0) := (blk_cell ZX.out 2).trans rfl; have nzf2 := blk_frozen ZX.out 2; have nzc3 : w6m.cell? ⟨g9, 3, none⟩ = some (.int .i64 0) := (blk_cell ZX.out 3).trans rfl; have nzf3 := blk_frozen ZX.out 3; have nzc4 : w6m.cell? ⟨g9, 4, none⟩ = some (.int .i64 0) := (blk_cell ZX.out 4).trans rfl; have nzf4 := blk_frozen ZX.out 4; have nzc5 : w6m.cell? ⟨g9, 5, none⟩ = some (.int .i64 0) := (blk_cell ZX.out 5).trans rfl; have nzf5 := blk_frozen ZX.out 5; have nzc6 : w6m.cell? ⟨g9, 6, none⟩ = some (.int .i64 0) := (blk_cell ZX.out 6).trans rfl; have nzf6 := blk_frozen ZX.out 6; have nzc7 : w6m.cell? ⟨g9, 7, none⟩ = some (.int .i64 0) := (blk_cell ZX.out 7).trans rfl; have nzf7 := blk_frozen ZX.out 7; clear hb hg hbox) | ((with_reducible refine gate_dst (N := 43) rfl ?_); have Bw6 := Aside0.mk (below_setB (below_setB (below_setB (below_setB (below_setB (below_setB (below_setB (below_setB ZB.out (p := ⟨g9, 0, none⟩) Kw6g.out (.int .i64 0)) (p := ⟨g9, 1, none⟩) Kw6g.out (.int .i64 1)) (p := ⟨g9, 2, none⟩) Kw6g.out (.int .i64 1)) (p := ⟨g9, 3, none⟩) Kw6g.out (.int .i64 0)) (p := ⟨g9, 4, none⟩) Kw6g.out (.int .i64 5)) (p := ⟨g9, 5, none⟩) Kw6g.out (.int .i64 0)) (p := ⟨g9, 6, none⟩) Kw6g.out (.int .i64 1)) (p := ⟨g9, 7, none⟩) Kw6g.out (.int .i64 0)); have Kw6 := Aside0.mk (blk_put (blk_put (blk_put (blk_put (blk_put (blk_put (blk_put (blk_put ZX.out 0 (.int .i64 0) (cs' := #[.int .i64 0, .int .i64 0, .int .i64 0, .int .i64 0, .int .i64 0, .int .i64 0, .int .i64 0, .int .i64 0]) rfl) 1 (.int .i64 1) (cs' := #[.int .i64 0, .int .i64 1, .int .i64 0, .int .i64 0, .int .i64 0, .int .i64 0, .int .i64 0, .int .i64 0]) rfl) 2 (.int .i64 1) (cs' := #[.int .i64 0, .int .i64 1, .int .i64 1, .int .i64 0, .int .i64 0, .int .i64 0, .int .i64 0, .int .i64 0]) rfl) 3 (.int .i64 0) (cs' := #[.int .i64 0, .int .i64 1, .int .i64 1, .int .i64 0, .int .i64 0, .int .i64 0, .int .i64 0, .int .i64 0]) rfl) 4 (.int .i64 5) (cs' := #[.int .i64 0, .int .i64 1, .int .i64 1, .int .i64 0, .int .i64 5, .int .i64 0, .int .i64 0, .int .i64 0]) rfl) 5 (.int .i64 0) (cs' := #[.int .i64 0, .int .i64 1, .int .i64 1, .int .i64 0, .int .i64 5, .int .i64 0, .int .i64 0, .int .i64 0]) rfl) 6 (.int .i64 1) (cs' := #[.int .i64 0, .int .i64 1, .int .i64 1, .int .i64 0, .int .i64 5, .int .i64 0, .int .i64 1, .int .i64 0]) rfl) 7 (.int .i64 0) (cs' := #[.int .i64 0, .int .i64 1, .int .i64 1, .int .i64 0, .int .i64 5, .int .i64 0, .int .i64 1, .int .i64 0]) rfl); clear ZB ZX nzc0 nzf0 nzc1 nzf1 nzc2 nzf2 nzc3 nzf3 nzc4 nzf4 nzc5 nzf5 nzc6 nzf6 nzc7 nzf7; generalize ((((((((w6m.setCell ⟨g9, 0, none⟩ (.int .i64 0)).setCell ⟨g9, 1, none⟩ (.int .i64 1)).setCell ⟨g9, 2, none⟩ (.int .i64 1)).setCell ⟨g9, 3, none⟩ (.int .i64 0)).setCell ⟨g9, 4, none⟩ (.int .i64 5)).setCell ⟨g9, 5, none⟩ (.int .i64 0)).setCell ⟨g9, 6, none⟩ (.int .i64 1)).setCell ⟨g9, 7, none⟩ (.int .i64 0)) = w6 at Bw6 Kw6 ⊢; have B6 := Aside0.mk (below_step B5.out Bw6.out); have R7d := Aside0.mk (Kd.R_below R7c.out Bw6.out); have R5f := Aside0.mk (Kd.R_below R5e.out Bw6.out); have K5e := Aside0.mk (blk_below K5d.out Bw6.out); have K7c := Aside0.mk (blk_below K7b.out Bw6.out); have nc6 : w6.cell? ⟨g9, 6, none⟩ = some (.int .i64 1) := (blk_cell Kw6.out 6).trans rfl; have nf6 := blk_frozen Kw6.out 6))
  by_cases hu : l0.length > 20
  · have d1 : decide ((l0.length : Int) > 20) = true := decide_eq_true (by omega)
    have d2 : decide (20 < l0.length) = true := decide_eq_true hu
    have d3 : (20 < l0.length) = True := eq_true hu
    have d4 : decide (20 < (l0.length : Int)) = true := decide_eq_true (by omega)
    clear hu
    go_wp2_with fail
    go_ret
    exact ⟨rfl, B6.out⟩
  have d1 : decide ((l0.length : Int) > 20) = false := decide_eq_false (by omega)
  have d2 : decide (20 < l0.length) = false := decide_eq_false hu
  have d3 : (20 < l0.length) = False := eq_false hu
  have d4 : decide (20 < (l0.length : Int)) = false := decide_eq_false (by omega)
  have HL0 := Aside0.mk (show l0.length ≤ 20 by omega)
  by_cases hv : l1.length > 60
  · have f1 : decide ((l1.length : Int) > 60) = true := decide_eq_true (by omega)
    have f2 : decide (60 < l1.length) = true := decide_eq_true hv
    have f3 : (60 < l1.length) = True := eq_true hv
    have f4 : decide (60 < (l1.length : Int)) = true := decide_eq_true (by omega)
    clear hu hv
    go_wp2_with fail
    go_ret
    exact ⟨rfl, B6.out⟩
  have f1 : decide ((l1.length : Int) > 60) = false := decide_eq_false (by omega)
  have f2 : decide (60 < l1.length) = false := decide_eq_false hv
  have f3 : (60 < l1.length) = False := eq_false hv
  have f4 : decide (60 < (l1.length : Int)) = false := decide_eq_false (by omega)
  have HL1 := Aside0.mk (show l1.length ≤ 60 by omega)
  have W1G := Aside0.mk Kw2g.out; have W3G := Aside0.mk Kw4g.out
  have R5s := Aside0.mk (Kd.R_mono (ok' := fun k => k ≠ g5 ∧ k ≠ g7) R5f.out (fun k hk => ⟨Nat.ne_of_lt (Nat.lt_of_lt_of_le hk W1G.out), Nat.ne_of_lt (Nat.lt_trans (Nat.lt_of_lt_of_le hk W1G.out) G7.out.2)⟩))
  have R7s := Aside0.mk (Kd.R_mono (ok' := fun k => k ≠ g5 ∧ k ≠ g7) R7d.out (fun k hk => ⟨Nat.ne_of_gt hk.1, Nat.ne_of_lt (Nat.lt_of_lt_of_le hk.2 W3G.out)⟩))
  clear hu hv
  go_wp2_with fail
  go_loopg [62] (l0.length + 1) (fun kq v62 w' => ∃ (i : Nat) (l : List S33), v62 = .int .i64 (i : Int) ∧ Aside0 (i ≤ l0.length ∧ i + kq = l0.length + 1) ∧ Aside0 (Both l i) ∧ Aside0 (LS w w' g5 g7 P5 P7 q5 q7 l))
  case atStart => exact ⟨0, [], rfl, ⟨by omega, by omega⟩, ⟨⟨List.Pairwise.nil, by simp, by simp, by simp⟩⟩, ⟨A5, A7, 0, c5, c7, rfl, K5e.out, K7c.out, R5s.out, R7s.out, B6.out⟩⟩
  case round =>
    clear R5s R7s K5e K7c B6 R5f R7d nc6 nf6 Kw6 Kw6g
    obtain ⟨i, l, rfl, HI, HB, HL⟩ := hrel
    generalize wr = wa at HL ⊢
    by_cases hi : i < l0.length
    · have NK := Aside0.mk (show i + 1 ≤ l0.length ∧ i + 1 + (gk - 1) = l0.length + 1 ∧ 0 < gk by have := HI.out; omega)
      have b2_ : wrap64 ((i : Int) + 1) = ((i + 1 : Nat) : Int) := by have := HL0.out; unfold wrap64; omega
      refine life_one hi HL0.out HB.out (by have := HI.out; have := HL0.out; omega) HR0.out G5.out G7.out.2 HL.out ?_
      intro u12 u63 u64 u65 u66 u67 u68 u69 u70 u71 u72 u73 u74 u75 u76 u77 u78 u79 u80 u81 u82 u83 u84 u85 u86 u87 u88 u89 u90 w' l' h1 h2
      dsimp only
      have H1 := Aside0.mk h1; have H2 := Aside0.mk h2
      clear h1 h2 hi
      go_wp2_with fail
      go_roundg (gk - 1)
      case measure => have := NK.out.2.2; omega
      case rel => exact ⟨i + 1, l', by rw [b2_], ⟨NK.out.1, NK.out.2.1⟩, H1, H2⟩
    have i1 : decide ((i : Int) < (l0.length : Int)) = false := decide_eq_false (by omega)
    have i2 : decide (i < l0.length) = false := decide_eq_false hi
    have i3 : (i < l0.length) = False := eq_false hi
    have HB2 := Aside0.mk (HB.out.more (show i ≤ 20 by have := HI.out; have := HL0.out; omega))
    clear hi HB HI
    go_wp2_with fail
    go_loopg [93] (l1.length + 1) (fun kq v93 w' => ∃ (i : Nat) (l : List S33), v93 = .int .i64 (i : Int) ∧ Aside0 (i ≤ l1.length ∧ i + kq = l1.length + 1) ∧ Aside0 (Both l (20 + i)) ∧ Aside0 (LS w w' g5 g7 P5 P7 q5 q7 l))
    case atStart => exact ⟨0, l, rfl, ⟨by omega, by omega⟩, HB2, HL⟩
    case round =>
      clear HB2 HL
      obtain ⟨i, l, rfl, HI, HB, HL⟩ := hrel
      generalize wr = wb at HL ⊢
      by_cases hi : i < l1.length
      · have NK := Aside0.mk (show i + 1 ≤ l1.length ∧ i + 1 + (gk - 1) = l1.length + 1 ∧ 0 < gk by have := HI.out; omega)
        have b2_ : wrap64 ((i : Int) + 1) = ((i + 1 : Nat) : Int) := by have := HL1.out; unfold wrap64; omega
        refine life_two hi HL1.out HB.out (by have := HI.out; have := HL1.out; omega) HR1.out G5.out G7.out.2 HL.out ?_
        intro u4 u8 u14 u15 u16 u17 u18 u19 u20 u21 u22 u23 u24 u25 u26 u27 u94 u95 u96 u97 u98 u99 u100 u101 u102 u103 u104 u105 u106 u107 u108 u109 u110 u111 u112 u113 u114 u115 u116 u117 u118 u119 u120 u121 u122 u123 u124 u125 u126 u127 u128 u129 u130 u131 u132 u133 u134 u135 u136 u137 u138 u139 u140 u141 u142 u143 u144 u145 u146 u147 u148 u149 u150 u151 u152 u153 u154 u155 u156 u157 u158 u159 u160 u161 u162 u163 u164 u165 u166 u167 u168 u169 u170 u171 u172 u173 u174 u175 u176 u177 u178 u179 u180 u181 u182 u183 u184 u185 u186 u187 u188 u189 u190 u191 u192 u193 u194 u195 u196 u197 u198 u199 u200 u201 u202 u203 u204 u205 u206 u207 u208 u209 u210 u211 u212 u213 u214 u215 u216 u217 u218 u219 u220 u221 u222 u223 u224 u225 u226 u227 u228 u229 u230 u231 u232 u233 u234 u235 u236 u237 u238 u239 u240 u241 u242 u243 u244 u245 u246 u247 u248 u249 u250 u251 u252 u253 u254 u255 u256 u257 u258 u259 u260 u261 u262 u263 u264 u265 u266 u267 w' l' h1 h2
        dsimp only
        have H1 := Aside0.mk h1; have H2 := Aside0.mk h2
        clear h1 h2 hi
        go_wp2_with fail
        go_roundg (gk - 1)
        case measure => have := NK.out.2.2; omega
        case rel => exact ⟨i + 1, l', by rw [b2_], ⟨NK.out.1, NK.out.2.1⟩, H1, H2⟩
      have i1 : decide ((i : Int) < (l1.length : Int)) = false := decide_eq_false (by omega)
      have i2 : decide (i < l1.length) = false := decide_eq_false hi
      have i3 : (i < l1.length) = False := eq_false hi
      clear hi
      obtain ⟨A5, A7, n, c5, c7, hn, h5, h7, -, -, ba⟩ := HL.out
      have K5 := Aside0.mk h5; have K7 := Aside0.mk h7; have BA := Aside0.mk ba
      have b5 : wb.cell? ⟨g5, 1, none⟩ = some (.slice A5 n c5) := (blk_cell h5 1).trans rfl
      have b7 : wb.cell? ⟨g7, 1, none⟩ = some (.slice A7 n c7) := (blk_cell h7 1).trans rfl
      clear hn h5 h7 ba
      go_wp2_with fail
      go_ret
      exact ⟨rfl, BA.out⟩
end Go.Proofs.Ytianljjmnpdkcaa.Pure
