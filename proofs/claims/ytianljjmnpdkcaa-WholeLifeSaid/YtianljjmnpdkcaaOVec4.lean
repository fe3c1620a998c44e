/-
  Vectors: Add of an entity and a currency that are there.
-/
import Derived.Test.YtianljjmnpdkcaaOVec3
namespace Go.Proofs.Ytianljjmnpdkcaa.M
open Go.RowKit Go.Proofs.YtianljjmnpdkcaaW.PrintWords Go.Proofs.YtianljjmnpdkcaaW.PrintLast Go.Proofs.YtianljjmnpdkcaaW.PrintMore
set_option linter.unusedVariables false
set_option linter.unusedSimpArgs false
/-- the amount of the one that is there -/
def amtP (l : List S63) (t : S63) : Int := (l.getD (atP l t) z63).f2
theorem there_lt {l : List S63} {t : S63} (h : thereP l t = true) : atP l t < l.length := by
  unfold thereP at h
  rw [Bool.and_eq_true] at h
  exact of_decide_eq_true h.1
theorem del1_calls {N n k c : Nat} {ok : Nat → Prop} {w : World} {A : Option Addr} {l : List S63} (hn : l.length = n) (h : Kd.R k63 63 w N ok (.slice A n c) l) (hi : k < n) (h8 : n ≤ 4095) :
    Calls Try.prog 32 #[.slice A n c, .int .i64 (k : Int), .int .i64 ((k : Int) + 1)] w fun x w' => x = .returned (.slice A (n - 1) c) ∧ Kd.R k63 63 w' N ok (.slice A (n - 1) c) (l.eraseIdx k) ∧ Below N w w' ∧ Kept w w' ok := by
  subst hn
  have e : ((k + 1 : Nat) : Int) = (k : Int) + 1 := by omega
  rw [← e]
  exact slices_Delete h hi rfl (by omega)
set_option maxHeartbeats 8000000 in
set_option maxRecDepth 100000 in
theorem add_err {A : Option Addr} {c : Nat} {l : List S63} {e cu am s : Int} {w : World} (hC : Kd.C k63 w A l.length l) (hv : VOk l) (ht : KB ⟨e, cu, am⟩) (hth : thereP l ⟨e, cu, am⟩ = true) (hi1 : In64 (amtP l ⟨e, cu, am⟩)) (hi2 : In64 am) (hsm : amtP l ⟨e, cu, am⟩ + am = s) (hs64 : ¬ In64 s) :
    Calls Try.prog 18 #[.agg #[.slice A l.length c], .int .i64 e, .int .i64 cu, .int .i64 am] w fun x w' => x = .returned (.tuple #[.agg #[.slice A l.length c], .int .i64 10]) ∧ Below w.heap.size w w' := by
  have hlt : atP l ⟨e, cu, am⟩ < l.length := there_lt hth
  obtain ⟨ad, rfl, x0_, x1_, x2_⟩ := posC hC (i := atP l ⟨e, cu, am⟩) hlt
  obtain ⟨x, hx⟩ : ∃ x, x = amtP l ⟨e, cu, am⟩ := ⟨_, rfl⟩
  rw [show (l.getD (atP l ⟨e, cu, am⟩) z63).f2 = x from hx.symm] at x2_
  rw [← hx] at hi1 hsm
  have HF0 := add_f hi1 hi2
  rw [hsm] at HF0
  have HX := Aside0.mk hx; have HSM := Aside0.mk hsm
  clear hi1 hi2 hx hsm
  rw [fit_out hs64] at HF0
  have HF := Aside0.mk HF0
  clear HF0 hs64
  obtain ⟨hl, hb, hs⟩ := hv
  have HC := Aside0.mk hC
  have AL := Aside0.mk (at_le l ⟨e, cu, am⟩)
  have BSF := Aside0.mk (fun (w' : World) (hb' : Below w.heap.size w w') => bsf_calls (c := c) (t := ⟨e, cu, am⟩) (w := w') rfl (Kd.C_below hC hb') (by omega) hb ht hs)
  rw [hth] at BSF
  obtain ⟨n, hn⟩ : ∃ n, l.length = n := ⟨_, rfl⟩
  obtain ⟨k, hk⟩ : ∃ k, atP l ⟨e, cu, am⟩ = k := ⟨_, rfl⟩
  rw [hn, hk] at BSF
  rw [hn] at AL
  rw [hk] at AL
  rw [hk] at x2_ hlt
  rw [hn] at hlt
  have X2 := Aside0.mk x2_
  have KN := Aside0.mk hlt
  have HNN := Aside0.mk hn; have HK := Aside0.mk hk; have HL := Aside0.mk hl
  have HTH := Aside0.mk hth
  have HE := Aside0.mk ht
  obtain ⟨⟨q0, q1⟩, q2, q3⟩ := ht
  have t1 : decide (e < 0) = false := decide_eq_false (by show ¬ e < 0; exact Int.not_lt.mpr q0)
  have t2 : decide (e ≥ 8) = false := decide_eq_false (by show ¬ 8 ≤ e; exact Int.not_le.mpr q1)
  have t3 : decide (cu < 0) = false := decide_eq_false (by show ¬ cu < 0; exact Int.not_lt.mpr q2)
  have t4 : decide (cu ≥ 8) = false := decide_eq_false (by show ¬ 8 ≤ cu; exact Int.not_le.mpr q3)
  have B0 := Aside0.mk (Below.refl w.heap.size w)
  rw [hn]
  clear hn hk hl hb hs hC hth q0 q1 q2 q3
  have ix1 : (0 : Int) ≤ (k : Int) := by omega
  have ix2 : (k : Int) < (n : Int) := by omega
  have ix3 := eq_true ix1; have ix4 := eq_true ix2
  have ix5 : decide ((k : Int) < (n : Int)) = true := decide_eq_true ix2
  have ix6 : decide (k < n) = true := decide_eq_true (by omega)
  have ix7 : (k < n) = True := eq_true (by omega)
  clear x0_ x1_ x2_ hlt
  go_enter Try.func18, Try.ntmps18
  go_wp2_with (first | ((with_reducible refine gate_dst (N := 4) rfl ?_); refine box_event ?hg (N := 4) ?hd (cs := #[.slice (some ad) n c]) (t := 48) ?hr ?_; (case hd => rfl); (case hg => rfl); (case hr => first | (go_simp; done) | (go_simp; rfl)); intro g4 hg w4 hbox hb; have B4 := Aside0.mk hb; have K4 := Aside0.mk hbox; have G4 := Aside0.mk (show w.heap.size ≤ g4 from by rw [hg]; exact Nat.le_refl _); clear hb hg hbox) | ((with_reducible refine gate_dst (N := 8) rfl ?_); refine box_event ?hg (N := 8) ?hd (cs := #[.slice none 0 0]) (t := 48) ?hr ?_; (case hd => rfl); (case hg => rfl); (case hr => first | (go_simp; done) | (go_simp; rfl)); intro g8 hg w8 hbox hb; have B8 := Aside0.mk (below_step B4.out hb); have K4b := Aside0.mk (blk_below K4.out hb); have K8 := Aside0.mk hbox; have G8 := Aside0.mk (show w.heap.size ≤ g8 ∧ g4 < g8 from ⟨by rw [hg]; exact B4.out.size, by rw [hg]; exact blk_lt K4.out⟩); clear hb hg hbox) | ((with_reducible refine gate_dst (N := 10) rfl ?_); refine box_event ?hg (N := 10) ?hd (cs := #[.int .i64 0, .int .i64 0, .int .i64 0]) (t := 63) ?hr ?_; (case hd => rfl); (case hg => rfl); (case hr => first | (go_simp; done) | (go_simp; rfl)); intro g10 hg w10m hbox hb; have ZB := Aside0.mk (below_step B8.out hb); have K4c := Aside0.mk (blk_below K4b.out hb); have K8c := Aside0.mk (blk_below K8.out hb); have ZX := Aside0.mk hbox; have G10 := Aside0.mk (show w.heap.size ≤ g10 ∧ g8 < g10 from ⟨by rw [hg]; exact B8.out.size, by rw [hg]; exact blk_lt K8.out⟩); have zc0 : w10m.cell? ⟨g10, 0, none⟩ = some (.int .i64 0) := (blk_cell ZX.out 0).trans rfl; have zf0 := blk_frozen ZX.out 0; have zc1 : w10m.cell? ⟨g10, 1, none⟩ = some (.int .i64 0) := (blk_cell ZX.out 1).trans rfl; have zf1 := blk_frozen ZX.out 1; have zc2 : w10m.cell? ⟨g10, 2, none⟩ = some (.int .i64 0) := (blk_cell ZX.out 2).trans rfl; have zf2 := blk_frozen ZX.out 2; clear hb hg hbox) | ((with_reducible refine gate_dst (N := 36) rfl ?_); have B10 := Aside0.mk (below_setB (below_setB (below_setB ZB.out (p := ⟨g10, 0, none⟩) G10.out.1 (.int .i64 e)) (p := ⟨g10, 1, none⟩) G10.out.1 (.int .i64 cu)) (p := ⟨g10, 2, none⟩) G10.out.1 (.int .i64 am)); have K10 := Aside0.mk (blk_put (blk_put (blk_put ZX.out 0 (.int .i64 e) (cs' := #[.int .i64 e, .int .i64 0, .int .i64 0]) rfl) 1 (.int .i64 cu) (cs' := #[.int .i64 e, .int .i64 cu, .int .i64 0]) rfl) 2 (.int .i64 am) (cs' := #[.int .i64 e, .int .i64 cu, .int .i64 am]) rfl); have K4d := Aside0.mk (((((((Kept.refl w10m (fun k => k = g10)).setCell (p := ⟨g10, 0, none⟩) (.inl rfl) (.int .i64 e)).setCell (p := ⟨g10, 1, none⟩) (.inl rfl) (.int .i64 cu)).setCell (p := ⟨g10, 2, none⟩) (.inl rfl) (.int .i64 am))).2 g4 (blk_lt K4c.out) (by have := G8.out.2; have := G10.out.2; show ¬ g4 = g10; exact Nat.ne_of_lt (Nat.lt_trans G8.out.2 G10.out.2))).trans K4c.out); have K8d := Aside0.mk (((((((Kept.refl w10m (fun k => k = g10)).setCell (p := ⟨g10, 0, none⟩) (.inl rfl) (.int .i64 e)).setCell (p := ⟨g10, 1, none⟩) (.inl rfl) (.int .i64 cu)).setCell (p := ⟨g10, 2, none⟩) (.inl rfl) (.int .i64 am))).2 g8 (blk_lt K8c.out) (Nat.ne_of_lt G10.out.2)).trans K8c.out); clear ZB ZX zc0 zf0 zc1 zf1 zc2 zf2; generalize (((w10m.setCell ⟨g10, 0, none⟩ (.int .i64 e)).setCell ⟨g10, 1, none⟩ (.int .i64 cu)).setCell ⟨g10, 2, none⟩ (.int .i64 am)) = w10 at B10 K10 K4d K8d ⊢; have qc0 : w10.cell? ⟨g4, 0, none⟩ = some (.slice (some ad) n c) := (blk_cell K4d.out 0).trans rfl; have qf0 := blk_frozen K4d.out 0; have pc0 : w10.cell? ⟨g10, 0, none⟩ = some (.int .i64 e) := (blk_cell K10.out 0).trans rfl; have pf0 := blk_frozen K10.out 0; have pc1 : w10.cell? ⟨g10, 1, none⟩ = some (.int .i64 cu) := (blk_cell K10.out 1).trans rfl; have pf1 := blk_frozen K10.out 1; have pc2 : w10.cell? ⟨g10, 2, none⟩ = some (.int .i64 am) := (blk_cell K10.out 2).trans rfl; have pf2 := blk_frozen K10.out 2) | (go_at_call 28; refine (BSF.out _ B10.out).mono ?_; rintro x w12 ⟨rfl, hb⟩; have B12 := Aside0.mk (below_step B10.out hb); have K4e := Aside0.mk (blk_below K4d.out hb); have K8e := Aside0.mk (blk_below K8d.out hb); have K10e := Aside0.mk (blk_below K10.out hb); clear hb BSF pc0 pf0 pc1 pf1 pc2 pf2 qc0 qf0; have qc0 : w12.cell? ⟨g4, 0, none⟩ = some (.slice (some ad) n c) := (blk_cell K4e.out 0).trans rfl; have qf0 := blk_frozen K4e.out 0; have pc0 : w12.cell? ⟨g10, 0, none⟩ = some (.int .i64 e) := (blk_cell K10e.out 0).trans rfl; have pf0 := blk_frozen K10e.out 0; have pc1 : w12.cell? ⟨g10, 1, none⟩ = some (.int .i64 cu) := (blk_cell K10e.out 1).trans rfl; have pf1 := blk_frozen K10e.out 1; have pc2 : w12.cell? ⟨g10, 2, none⟩ = some (.int .i64 am) := (blk_cell K10e.out 2).trans rfl; have pf2 := blk_frozen K10e.out 2; have xe := pw_cell_below B12.out X2.out) | (go_at_call 30; refine (money_Add.calls x am 0 10 _ HF.out).mono ?_; rintro z w13 ⟨rfl, hd⟩; have hb := hd.below; have B13 := Aside0.mk (below_step B12.out hb); have K4f := Aside0.mk (blk_below K4e.out hb); have K8f := Aside0.mk (blk_below K8e.out hb); have K10f := Aside0.mk (blk_below K10e.out hb); clear pc0 pf0 pc1 pf1 pc2 pf2 qc0 qf0; have qc0 : w13.cell? ⟨g4, 0, none⟩ = some (.slice (some ad) n c) := (blk_cell K4f.out 0).trans rfl; have qf0 := blk_frozen K4f.out 0; have pc0 : w13.cell? ⟨g10, 0, none⟩ = some (.int .i64 e) := (blk_cell K10f.out 0).trans rfl; have pf0 := blk_frozen K10f.out 0; have pc1 : w13.cell? ⟨g10, 1, none⟩ = some (.int .i64 cu) := (blk_cell K10f.out 1).trans rfl; have pf1 := blk_frozen K10f.out 1; have pc2 : w13.cell? ⟨g10, 2, none⟩ = some (.int .i64 am) := (blk_cell K10f.out 2).trans rfl; have pf2 := blk_frozen K10f.out 2; have rc0 : w13.cell? ⟨g8, 0, none⟩ = some (.slice none 0 0) := (blk_cell K8f.out 0).trans rfl; have rf0 := blk_frozen K8f.out 0; clear hb hd xe))
  refine bodyPost_ret (results_ct rfl _ _ g8 48 #[.slice (some ad) n c] (0, 0) _ rfl (blk_put K8f.out 0 (.slice (some ad) n c) (cs' := #[.slice (some ad) n c]) rfl) Try.underlying48 rfl (by kernel_rfl)) rfl ?_
  exact ⟨rfl, below_setB B13.out (p := ⟨g8, 0, none⟩) G8.out.1 _⟩
set_option maxHeartbeats 8000000 in
set_option maxRecDepth 100000 in
theorem add_del {A : Option Addr} {c : Nat} {l : List S63} {e cu am s : Int} {w : World} (hC : Kd.C k63 w A l.length l) (hv : VOk l) (ht : KB ⟨e, cu, am⟩) (hth : thereP l ⟨e, cu, am⟩ = true) (hi1 : In64 (amtP l ⟨e, cu, am⟩)) (hi2 : In64 am) (hsm : amtP l ⟨e, cu, am⟩ + am = s) (hs0 : s = 0) :
    Calls Try.prog 18 #[.agg #[.slice A l.length c], .int .i64 e, .int .i64 cu, .int .i64 am] w fun x w' => ∃ v, x = .returned (.tuple #[.agg #[v], .int .i64 0]) ∧ Kd.R k63 63 w' w.heap.size (fun _ => True) v (l.eraseIdx (atP l ⟨e, cu, am⟩)) ∧ Below w.heap.size w w' := by
  have hlt : atP l ⟨e, cu, am⟩ < l.length := there_lt hth
  obtain ⟨ad, rfl, x0_, x1_, x2_⟩ := posC hC (i := atP l ⟨e, cu, am⟩) hlt
  obtain ⟨x, hx⟩ : ∃ x, x = amtP l ⟨e, cu, am⟩ := ⟨_, rfl⟩
  rw [show (l.getD (atP l ⟨e, cu, am⟩) z63).f2 = x from hx.symm] at x2_
  rw [← hx] at hi1 hsm
  have HF0 := add_f hi1 hi2
  rw [hsm] at HF0
  have HX := Aside0.mk hx; have HSM := Aside0.mk hsm
  clear hi1 hi2 hx hsm
  rw [fit_in (show In64 s by rw [hs0]; exact ⟨by omega, by omega⟩)] at HF0
  have HF := Aside0.mk HF0
  have u1 : (s == 0) = true := beq_iff_eq.mpr hs0
  clear HF0 hs0
  obtain ⟨hl, hb, hs⟩ := hv
  have HC := Aside0.mk hC
  have AL := Aside0.mk (at_le l ⟨e, cu, am⟩)
  have BSF := Aside0.mk (fun (w' : World) (hb' : Below w.heap.size w w') => bsf_calls (c := c) (t := ⟨e, cu, am⟩) (w := w') rfl (Kd.C_below hC hb') (by omega) hb ht hs)
  rw [hth] at BSF
  obtain ⟨n, hn⟩ : ∃ n, l.length = n := ⟨_, rfl⟩
  obtain ⟨k, hk⟩ : ∃ k, atP l ⟨e, cu, am⟩ = k := ⟨_, rfl⟩
  rw [hn, hk] at BSF
  rw [hn] at AL
  rw [hk] at AL
  rw [hk] at x2_ hlt
  rw [hn] at hlt
  have X2 := Aside0.mk x2_
  have KN := Aside0.mk hlt
  have HNN := Aside0.mk hn; have HK := Aside0.mk hk; have HL := Aside0.mk hl
  have HTH := Aside0.mk hth
  have HE := Aside0.mk ht
  obtain ⟨⟨q0, q1⟩, q2, q3⟩ := ht
  have t1 : decide (e < 0) = false := decide_eq_false (by show ¬ e < 0; exact Int.not_lt.mpr q0)
  have t2 : decide (e ≥ 8) = false := decide_eq_false (by show ¬ 8 ≤ e; exact Int.not_le.mpr q1)
  have t3 : decide (cu < 0) = false := decide_eq_false (by show ¬ cu < 0; exact Int.not_lt.mpr q2)
  have t4 : decide (cu ≥ 8) = false := decide_eq_false (by show ¬ 8 ≤ cu; exact Int.not_le.mpr q3)
  have B0 := Aside0.mk (Below.refl w.heap.size w)
  rw [hk]
  rw [hn]
  clear hn hk hl hb hs hC hth q0 q1 q2 q3
  have ix1 : (0 : Int) ≤ (k : Int) := by omega
  have ix2 : (k : Int) < (n : Int) := by omega
  have ix3 := eq_true ix1; have ix4 := eq_true ix2
  have ix5 : decide ((k : Int) < (n : Int)) = true := decide_eq_true ix2
  have ix6 : decide (k < n) = true := decide_eq_true (by omega)
  have ix7 : (k < n) = True := eq_true (by omega)
  clear x0_ x1_ x2_ hlt
  have nx : wrap64 ((k : Int) + 1) = ((k + 1 : Nat) : Int) := by have := KN.out; have := HNN.out; have := HL.out; unfold wrap64; omega
  go_enter Try.func18, Try.ntmps18
  go_wp2_with (first | ((with_reducible refine gate_dst (N := 4) rfl ?_); refine box_event ?hg (N := 4) ?hd (cs := #[.slice (some ad) n c]) (t := 48) ?hr ?_; (case hd => rfl); (case hg => rfl); (case hr => first | (go_simp; done) | (go_simp; rfl)); intro g4 hg w4 hbox hb; have B4 := Aside0.mk hb; have K4 := Aside0.mk hbox; have G4 := Aside0.mk (show w.heap.size ≤ g4 from by rw [hg]; exact Nat.le_refl _); clear hb hg hbox) | ((with_reducible refine gate_dst (N := 8) rfl ?_); refine box_event ?hg (N := 8) ?hd (cs := #[.slice none 0 0]) (t := 48) ?hr ?_; (case hd => rfl); (case hg => rfl); (case hr => first | (go_simp; done) | (go_simp; rfl)); intro g8 hg w8 hbox hb; have B8 := Aside0.mk (below_step B4.out hb); have K4b := Aside0.mk (blk_below K4.out hb); have K8 := Aside0.mk hbox; have G8 := Aside0.mk (show w.heap.size ≤ g8 ∧ g4 < g8 from ⟨by rw [hg]; exact B4.out.size, by rw [hg]; exact blk_lt K4.out⟩); clear hb hg hbox) | ((with_reducible refine gate_dst (N := 10) rfl ?_); refine box_event ?hg (N := 10) ?hd (cs := #[.int .i64 0, .int .i64 0, .int .i64 0]) (t := 63) ?hr ?_; (case hd => rfl); (case hg => rfl); (case hr => first | (go_simp; done) | (go_simp; rfl)); intro g10 hg w10m hbox hb; have ZB := Aside0.mk (below_step B8.out hb); have K4c := Aside0.mk (blk_below K4b.out hb); have K8c := Aside0.mk (blk_below K8.out hb); have ZX := Aside0.mk hbox; have G10 := Aside0.mk (show w.heap.size ≤ g10 ∧ g8 < g10 from ⟨by rw [hg]; exact B8.out.size, by rw [hg]; exact blk_lt K8.out⟩); have zc0 : w10m.cell? ⟨g10, 0, none⟩ = some (.int .i64 0) := (blk_cell ZX.out 0).trans rfl; have zf0 := blk_frozen ZX.out 0; have zc1 : w10m.cell? ⟨g10, 1, none⟩ = some (.int .i64 0) := (blk_cell ZX.out 1).trans rfl; have zf1 := blk_frozen ZX.out 1; have zc2 : w10m.cell? ⟨g10, 2, none⟩ = some (.int .i64 0) := (blk_cell ZX.out 2).trans rfl; have zf2 := blk_frozen ZX.out 2; clear hb hg hbox) | ((with_reducible refine gate_dst (N := 36) rfl ?_); have B10 := Aside0.mk (below_setB (below_setB (below_setB ZB.out (p := ⟨g10, 0, none⟩) G10.out.1 (.int .i64 e)) (p := ⟨g10, 1, none⟩) G10.out.1 (.int .i64 cu)) (p := ⟨g10, 2, none⟩) G10.out.1 (.int .i64 am)); have K10 := Aside0.mk (blk_put (blk_put (blk_put ZX.out 0 (.int .i64 e) (cs' := #[.int .i64 e, .int .i64 0, .int .i64 0]) rfl) 1 (.int .i64 cu) (cs' := #[.int .i64 e, .int .i64 cu, .int .i64 0]) rfl) 2 (.int .i64 am) (cs' := #[.int .i64 e, .int .i64 cu, .int .i64 am]) rfl); have K4d := Aside0.mk (((((((Kept.refl w10m (fun k => k = g10)).setCell (p := ⟨g10, 0, none⟩) (.inl rfl) (.int .i64 e)).setCell (p := ⟨g10, 1, none⟩) (.inl rfl) (.int .i64 cu)).setCell (p := ⟨g10, 2, none⟩) (.inl rfl) (.int .i64 am))).2 g4 (blk_lt K4c.out) (by have := G8.out.2; have := G10.out.2; show ¬ g4 = g10; exact Nat.ne_of_lt (Nat.lt_trans G8.out.2 G10.out.2))).trans K4c.out); have K8d := Aside0.mk (((((((Kept.refl w10m (fun k => k = g10)).setCell (p := ⟨g10, 0, none⟩) (.inl rfl) (.int .i64 e)).setCell (p := ⟨g10, 1, none⟩) (.inl rfl) (.int .i64 cu)).setCell (p := ⟨g10, 2, none⟩) (.inl rfl) (.int .i64 am))).2 g8 (blk_lt K8c.out) (Nat.ne_of_lt G10.out.2)).trans K8c.out); clear ZB ZX zc0 zf0 zc1 zf1 zc2 zf2; generalize (((w10m.setCell ⟨g10, 0, none⟩ (.int .i64 e)).setCell ⟨g10, 1, none⟩ (.int .i64 cu)).setCell ⟨g10, 2, none⟩ (.int .i64 am)) = w10 at B10 K10 K4d K8d ⊢; have qc0 : w10.cell? ⟨g4, 0, none⟩ = some (.slice (some ad) n c) := (blk_cell K4d.out 0).trans rfl; have qf0 := blk_frozen K4d.out 0; have pc0 : w10.cell? ⟨g10, 0, none⟩ = some (.int .i64 e) := (blk_cell K10.out 0).trans rfl; have pf0 := blk_frozen K10.out 0; have pc1 : w10.cell? ⟨g10, 1, none⟩ = some (.int .i64 cu) := (blk_cell K10.out 1).trans rfl; have pf1 := blk_frozen K10.out 1; have pc2 : w10.cell? ⟨g10, 2, none⟩ = some (.int .i64 am) := (blk_cell K10.out 2).trans rfl; have pf2 := blk_frozen K10.out 2) | (go_at_call 28; refine (BSF.out _ B10.out).mono ?_; rintro x w12 ⟨rfl, hb⟩; have B12 := Aside0.mk (below_step B10.out hb); have K4e := Aside0.mk (blk_below K4d.out hb); have K8e := Aside0.mk (blk_below K8d.out hb); have K10e := Aside0.mk (blk_below K10.out hb); clear hb BSF pc0 pf0 pc1 pf1 pc2 pf2 qc0 qf0; have qc0 : w12.cell? ⟨g4, 0, none⟩ = some (.slice (some ad) n c) := (blk_cell K4e.out 0).trans rfl; have qf0 := blk_frozen K4e.out 0; have pc0 : w12.cell? ⟨g10, 0, none⟩ = some (.int .i64 e) := (blk_cell K10e.out 0).trans rfl; have pf0 := blk_frozen K10e.out 0; have pc1 : w12.cell? ⟨g10, 1, none⟩ = some (.int .i64 cu) := (blk_cell K10e.out 1).trans rfl; have pf1 := blk_frozen K10e.out 1; have pc2 : w12.cell? ⟨g10, 2, none⟩ = some (.int .i64 am) := (blk_cell K10e.out 2).trans rfl; have pf2 := blk_frozen K10e.out 2; have xe := pw_cell_below B12.out X2.out) | (go_at_call 30; refine (money_Add.calls x am s 0 _ HF.out).mono ?_; rintro z w13 ⟨rfl, hd⟩; have hb := hd.below; have B13 := Aside0.mk (below_step B12.out hb); have K4f := Aside0.mk (blk_below K4e.out hb); have K8f := Aside0.mk (blk_below K8e.out hb); have K10f := Aside0.mk (blk_below K10e.out hb); clear pc0 pf0 pc1 pf1 pc2 pf2 qc0 qf0; have qc0 : w13.cell? ⟨g4, 0, none⟩ = some (.slice (some ad) n c) := (blk_cell K4f.out 0).trans rfl; have qf0 := blk_frozen K4f.out 0; have pc0 : w13.cell? ⟨g10, 0, none⟩ = some (.int .i64 e) := (blk_cell K10f.out 0).trans rfl; have pf0 := blk_frozen K10f.out 0; have pc1 : w13.cell? ⟨g10, 1, none⟩ = some (.int .i64 cu) := (blk_cell K10f.out 1).trans rfl; have pf1 := blk_frozen K10f.out 1; have pc2 : w13.cell? ⟨g10, 2, none⟩ = some (.int .i64 am) := (blk_cell K10f.out 2).trans rfl; have pf2 := blk_frozen K10f.out 2; have rc0 : w13.cell? ⟨g8, 0, none⟩ = some (.slice none 0 0) := (blk_cell K8f.out 0).trans rfl; have rf0 := blk_frozen K8f.out 0; clear hb hd xe) | ((with_reducible refine gate_dst (N := 60) rfl ?_); have B14 := Aside0.mk (below_setB B13.out (p := ⟨g10, 2, none⟩) G10.out.1 (.int .i64 s)); have K10g := Aside0.mk (blk_put K10f.out 2 (.int .i64 s) (cs' := #[.int .i64 e, .int .i64 cu, .int .i64 s]) rfl); have K4g := Aside0.mk (blk_far K4f.out (p := ⟨g10, 2, none⟩) (Nat.ne_of_lt (Nat.lt_trans G8.out.2 G10.out.2)) (.int .i64 s)); have K8g := Aside0.mk (blk_far K8f.out (p := ⟨g10, 2, none⟩) (Nat.ne_of_lt G10.out.2) (.int .i64 s)); clear pc0 pf0 pc1 pf1 pc2 pf2 qc0 qf0 rc0 rf0 K4f K8f K10f; generalize (w13.setCell ⟨g10, 2, none⟩ (.int .i64 s)) = w14 at B14 K4g K8g K10g ⊢; have qc0 : w14.cell? ⟨g4, 0, none⟩ = some (.slice (some ad) n c) := (blk_cell K4g.out 0).trans rfl; have qf0 := blk_frozen K4g.out 0; have pc0 : w14.cell? ⟨g10, 0, none⟩ = some (.int .i64 e) := (blk_cell K10g.out 0).trans rfl; have pf0 := blk_frozen K10g.out 0; have pc1 : w14.cell? ⟨g10, 1, none⟩ = some (.int .i64 cu) := (blk_cell K10g.out 1).trans rfl; have pf1 := blk_frozen K10g.out 1; have pc2 : w14.cell? ⟨g10, 2, none⟩ = some (.int .i64 s) := (blk_cell K10g.out 2).trans rfl; have pf2 := blk_frozen K10g.out 2; have rc0 : w14.cell? ⟨g8, 0, none⟩ = some (.slice none 0 0) := (blk_cell K8g.out 0).trans rfl; have rf0 := blk_frozen K8g.out 0) | (go_at_call 31; refine (clone_calls (w := w14) HNN.out.symm (Kd.C_below HC.out B14.out) (by have := HL.out; omega)).mono ?_; rintro x w15 ⟨v15, rfl, hO, hb⟩; obtain ⟨A15, c15, e15⟩ := Kd.R_slice hO; subst e15; rw [HNN.out] at hO ⊢; have O15 := Aside0.mk (Kd.R_mono (ok' := fun k => k ≠ g8 ∧ k ≠ g10) (Kd.R_bound hO) (fun k hk => ⟨Nat.ne_of_gt (Nat.lt_of_lt_of_le (blk_lt K8g.out) hk.2.1), Nat.ne_of_gt (Nat.lt_of_lt_of_le (blk_lt K10g.out) hk.2.1)⟩)); have B15 := Aside0.mk (below_step B14.out hb); have K4h := Aside0.mk (blk_below K4g.out hb); have K8h := Aside0.mk (blk_below K8g.out hb); have K10h := Aside0.mk (blk_below K10g.out hb); clear pc0 pf0 pc1 pf1 pc2 pf2 qc0 qf0; have qc0 : w15.cell? ⟨g4, 0, none⟩ = some (.slice (some ad) n c) := (blk_cell K4h.out 0).trans rfl; have qf0 := blk_frozen K4h.out 0; have pc0 : w15.cell? ⟨g10, 0, none⟩ = some (.int .i64 e) := (blk_cell K10h.out 0).trans rfl; have pf0 := blk_frozen K10h.out 0; have pc1 : w15.cell? ⟨g10, 1, none⟩ = some (.int .i64 cu) := (blk_cell K10h.out 1).trans rfl; have pf1 := blk_frozen K10h.out 1; have pc2 : w15.cell? ⟨g10, 2, none⟩ = some (.int .i64 s) := (blk_cell K10h.out 2).trans rfl; have pf2 := blk_frozen K10h.out 2; have rc0 : w15.cell? ⟨g8, 0, none⟩ = some (.slice none 0 0) := (blk_cell K8h.out 0).trans rfl; have rf0 := blk_frozen K8h.out 0; clear hb hO) | (go_at_call 32; refine (del1_calls HNN.out O15.out KN.out (HNN.out ▸ HL.out)).mono ?_; rintro x' w16 ⟨rfl, hO, hb, hk⟩; have B16 := Aside0.mk (B15.out.trans (hb.mono B14.out.size)); have K8i := Aside0.mk ((hk.2 g8 (blk_lt K8h.out) (fun h => h.1 rfl)).trans K8h.out); have O16 := Aside0.mk hO; clear hb hk hO rc0 rf0; have rc0 : w16.cell? ⟨g8, 0, none⟩ = some (.slice none 0 0) := (blk_cell K8i.out 0).trans rfl; have rf0 := blk_frozen K8i.out 0))
  refine bodyPost_ret (results_ct rfl _ _ g8 48 #[.slice A15 (n - 1) c15] (0, 0) _ rfl (blk_put K8i.out 0 (.slice A15 (n - 1) c15) (cs' := #[.slice A15 (n - 1) c15]) rfl) Try.underlying48 rfl (by kernel_rfl)) rfl ?_
  exact ⟨_, rfl, Kd.R_lower (Kd.R_mono (Kd.R_far O16.out (p := ⟨g8, 0, none⟩) (fun k hk => hk.1) _) (fun _ _ => trivial)) B14.out.size, below_setB B16.out (p := ⟨g8, 0, none⟩) G8.out.1 _⟩
set_option maxHeartbeats 8000000 in
set_option maxRecDepth 100000 in
theorem add_set {A : Option Addr} {c : Nat} {l : List S63} {e cu am s : Int} {w : World} (hC : Kd.C k63 w A l.length l) (hv : VOk l) (ht : KB ⟨e, cu, am⟩) (hth : thereP l ⟨e, cu, am⟩ = true) (hi1 : In64 (amtP l ⟨e, cu, am⟩)) (hi2 : In64 am) (hsm : amtP l ⟨e, cu, am⟩ + am = s) (hs64 : In64 s) (hs0 : s ≠ 0) :
    Calls Try.prog 18 #[.agg #[.slice A l.length c], .int .i64 e, .int .i64 cu, .int .i64 am] w fun x w' => ∃ v, x = .returned (.tuple #[.agg #[v], .int .i64 0]) ∧ Kd.R k63 63 w' w.heap.size (fun _ => True) v (l.set (atP l ⟨e, cu, am⟩) ⟨e, cu, s⟩) ∧ Below w.heap.size w w' := by
  have hlt : atP l ⟨e, cu, am⟩ < l.length := there_lt hth
  obtain ⟨ad, rfl, x0_, x1_, x2_⟩ := posC hC (i := atP l ⟨e, cu, am⟩) hlt
  obtain ⟨x, hx⟩ : ∃ x, x = amtP l ⟨e, cu, am⟩ := ⟨_, rfl⟩
  rw [show (l.getD (atP l ⟨e, cu, am⟩) z63).f2 = x from hx.symm] at x2_
  rw [← hx] at hi1 hsm
  have HF0 := add_f hi1 hi2
  rw [hsm] at HF0
  have HX := Aside0.mk hx; have HSM := Aside0.mk hsm
  clear hi1 hi2 hx hsm
  rw [fit_in hs64] at HF0
  have HF := Aside0.mk HF0
  have u1 : (s == 0) = false := beq_eq_false_iff_ne.mpr hs0
  have u3 : (s = 0) = False := eq_false hs0
  clear HF0 hs0 hs64
  obtain ⟨hl, hb, hs⟩ := hv
  have HC := Aside0.mk hC
  have AL := Aside0.mk (at_le l ⟨e, cu, am⟩)
  have BSF := Aside0.mk (fun (w' : World) (hb' : Below w.heap.size w w') => bsf_calls (c := c) (t := ⟨e, cu, am⟩) (w := w') rfl (Kd.C_below hC hb') (by omega) hb ht hs)
  rw [hth] at BSF
  obtain ⟨n, hn⟩ : ∃ n, l.length = n := ⟨_, rfl⟩
  obtain ⟨k, hk⟩ : ∃ k, atP l ⟨e, cu, am⟩ = k := ⟨_, rfl⟩
  rw [hn, hk] at BSF
  rw [hn] at AL
  rw [hk] at AL
  rw [hk] at x2_ hlt
  rw [hn] at hlt
  have X2 := Aside0.mk x2_
  have KN := Aside0.mk hlt
  have HNN := Aside0.mk hn; have HK := Aside0.mk hk; have HL := Aside0.mk hl
  have HTH := Aside0.mk hth
  have HE := Aside0.mk ht
  obtain ⟨⟨q0, q1⟩, q2, q3⟩ := ht
  have t1 : decide (e < 0) = false := decide_eq_false (by show ¬ e < 0; exact Int.not_lt.mpr q0)
  have t2 : decide (e ≥ 8) = false := decide_eq_false (by show ¬ 8 ≤ e; exact Int.not_le.mpr q1)
  have t3 : decide (cu < 0) = false := decide_eq_false (by show ¬ cu < 0; exact Int.not_lt.mpr q2)
  have t4 : decide (cu ≥ 8) = false := decide_eq_false (by show ¬ 8 ≤ cu; exact Int.not_le.mpr q3)
  have B0 := Aside0.mk (Below.refl w.heap.size w)
  rw [hk]
  rw [hn]
  clear hn hk hl hb hs hC hth q0 q1 q2 q3
  have ix1 : (0 : Int) ≤ (k : Int) := by omega
  have ix2 : (k : Int) < (n : Int) := by omega
  have ix3 := eq_true ix1; have ix4 := eq_true ix2
  have ix5 : decide ((k : Int) < (n : Int)) = true := decide_eq_true ix2
  have ix6 : decide (k < n) = true := decide_eq_true (by omega)
  have ix7 : (k < n) = True := eq_true (by omega)
  clear x0_ x1_ x2_ hlt
  have nx : wrap64 ((k : Int) + 1) = ((k + 1 : Nat) : Int) := by have := KN.out; have := HNN.out; have := HL.out; unfold wrap64; omega
  go_enter Try.func18, Try.ntmps18
  go_wp2_with (first | ((with_reducible refine gate_dst (N := 4) rfl ?_); refine box_event ?hg (N := 4) ?hd (cs := #[.slice (some ad) n c]) (t := 48) ?hr ?_; (case hd => rfl); (case hg => rfl); (case hr => first | (go_simp; done) | (go_simp; rfl)); intro g4 hg w4 hbox hb; have B4 := Aside0.mk hb; have K4 := Aside0.mk hbox; have G4 := Aside0.mk (show w.heap.size ≤ g4 from by rw [hg]; exact Nat.le_refl _); clear hb hg hbox) | ((with_reducible refine gate_dst (N := 8) rfl ?_); refine box_event ?hg (N := 8) ?hd (cs := #[.slice none 0 0]) (t := 48) ?hr ?_; (case hd => rfl); (case hg => rfl); (case hr => first | (go_simp; done) | (go_simp; rfl)); intro g8 hg w8 hbox hb; have B8 := Aside0.mk (below_step B4.out hb); have K4b := Aside0.mk (blk_below K4.out hb); have K8 := Aside0.mk hbox; have G8 := Aside0.mk (show w.heap.size ≤ g8 ∧ g4 < g8 from ⟨by rw [hg]; exact B4.out.size, by rw [hg]; exact blk_lt K4.out⟩); clear hb hg hbox) | ((with_reducible refine gate_dst (N := 10) rfl ?_); refine box_event ?hg (N := 10) ?hd (cs := #[.int .i64 0, .int .i64 0, .int .i64 0]) (t := 63) ?hr ?_; (case hd => rfl); (case hg => rfl); (case hr => first | (go_simp; done) | (go_simp; rfl)); intro g10 hg w10m hbox hb; have ZB := Aside0.mk (below_step B8.out hb); have K4c := Aside0.mk (blk_below K4b.out hb); have K8c := Aside0.mk (blk_below K8.out hb); have ZX := Aside0.mk hbox; have G10 := Aside0.mk (show w.heap.size ≤ g10 ∧ g8 < g10 from ⟨by rw [hg]; exact B8.out.size, by rw [hg]; exact blk_lt K8.out⟩); have zc0 : w10m.cell? ⟨g10, 0, none⟩ = some (.int .i64 0) := (blk_cell ZX.out 0).trans rfl; have zf0 := blk_frozen ZX.out 0; have zc1 : w10m.cell? ⟨g10, 1, none⟩ = some (.int .i64 0) := (blk_cell ZX.out 1).trans rfl; have zf1 := blk_frozen ZX.out 1; have zc2 : w10m.cell? ⟨g10, 2, none⟩ = some (.int .i64 0) := (blk_cell ZX.out 2).trans rfl; have zf2 := blk_frozen ZX.out 2; clear hb hg hbox) | ((with_reducible refine gate_dst (N := 36) rfl ?_); have B10 := Aside0.mk (below_setB (below_setB (below_setB ZB.out (p := ⟨g10, 0, none⟩) G10.out.1 (.int .i64 e)) (p := ⟨g10, 1, none⟩) G10.out.1 (.int .i64 cu)) (p := ⟨g10, 2, none⟩) G10.out.1 (.int .i64 am)); have K10 := Aside0.mk (blk_put (blk_put (blk_put ZX.out 0 (.int .i64 e) (cs' := #[.int .i64 e, .int .i64 0, .int .i64 0]) rfl) 1 (.int .i64 cu) (cs' := #[.int .i64 e, .int .i64 cu, .int .i64 0]) rfl) 2 (.int .i64 am) (cs' := #[.int .i64 e, .int .i64 cu, .int .i64 am]) rfl); have K4d := Aside0.mk (((((((Kept.refl w10m (fun k => k = g10)).setCell (p := ⟨g10, 0, none⟩) (.inl rfl) (.int .i64 e)).setCell (p := ⟨g10, 1, none⟩) (.inl rfl) (.int .i64 cu)).setCell (p := ⟨g10, 2, none⟩) (.inl rfl) (.int .i64 am))).2 g4 (blk_lt K4c.out) (by have := G8.out.2; have := G10.out.2; show ¬ g4 = g10; exact Nat.ne_of_lt (Nat.lt_trans G8.out.2 G10.out.2))).trans K4c.out); have K8d := Aside0.mk (((((((Kept.refl w10m (fun k => k = g10)).setCell (p := ⟨g10, 0, none⟩) (.inl rfl) (.int .i64 e)).setCell (p := ⟨g10, 1, none⟩) (.inl rfl) (.int .i64 cu)).setCell (p := ⟨g10, 2, none⟩) (.inl rfl) (.int .i64 am))).2 g8 (blk_lt K8c.out) (Nat.ne_of_lt G10.out.2)).trans K8c.out); clear ZB ZX zc0 zf0 zc1 zf1 zc2 zf2; generalize (((w10m.setCell ⟨g10, 0, none⟩ (.int .i64 e)).setCell ⟨g10, 1, none⟩ (.int .i64 cu)).setCell ⟨g10, 2, none⟩ (.int .i64 am)) = w10 at B10 K10 K4d K8d ⊢; have qc0 : w10.cell? ⟨g4, 0, none⟩ = some (.slice (some ad) n c) := (blk_cell K4d.out 0).trans rfl; have qf0 := blk_frozen K4d.out 0; have pc0 : w10.cell? ⟨g10, 0, none⟩ = some (.int .i64 e) := (blk_cell K10.out 0).trans rfl; have pf0 := blk_frozen K10.out 0; have pc1 : w10.cell? ⟨g10, 1, none⟩ = some (.int .i64 cu) := (blk_cell K10.out 1).trans rfl; have pf1 := blk_frozen K10.out 1; have pc2 : w10.cell? ⟨g10, 2, none⟩ = some (.int .i64 am) := (blk_cell K10.out 2).trans rfl; have pf2 := blk_frozen K10.out 2) | (go_at_call 28; refine (BSF.out _ B10.out).mono ?_; rintro x w12 ⟨rfl, hb⟩; have B12 := Aside0.mk (below_step B10.out hb); have K4e := Aside0.mk (blk_below K4d.out hb); have K8e := Aside0.mk (blk_below K8d.out hb); have K10e := Aside0.mk (blk_below K10.out hb); clear hb BSF pc0 pf0 pc1 pf1 pc2 pf2 qc0 qf0; have qc0 : w12.cell? ⟨g4, 0, none⟩ = some (.slice (some ad) n c) := (blk_cell K4e.out 0).trans rfl; have qf0 := blk_frozen K4e.out 0; have pc0 : w12.cell? ⟨g10, 0, none⟩ = some (.int .i64 e) := (blk_cell K10e.out 0).trans rfl; have pf0 := blk_frozen K10e.out 0; have pc1 : w12.cell? ⟨g10, 1, none⟩ = some (.int .i64 cu) := (blk_cell K10e.out 1).trans rfl; have pf1 := blk_frozen K10e.out 1; have pc2 : w12.cell? ⟨g10, 2, none⟩ = some (.int .i64 am) := (blk_cell K10e.out 2).trans rfl; have pf2 := blk_frozen K10e.out 2; have xe := pw_cell_below B12.out X2.out) | (go_at_call 30; refine (money_Add.calls x am s 0 _ HF.out).mono ?_; rintro z w13 ⟨rfl, hd⟩; have hb := hd.below; have B13 := Aside0.mk (below_step B12.out hb); have K4f := Aside0.mk (blk_below K4e.out hb); have K8f := Aside0.mk (blk_below K8e.out hb); have K10f := Aside0.mk (blk_below K10e.out hb); clear pc0 pf0 pc1 pf1 pc2 pf2 qc0 qf0; have qc0 : w13.cell? ⟨g4, 0, none⟩ = some (.slice (some ad) n c) := (blk_cell K4f.out 0).trans rfl; have qf0 := blk_frozen K4f.out 0; have pc0 : w13.cell? ⟨g10, 0, none⟩ = some (.int .i64 e) := (blk_cell K10f.out 0).trans rfl; have pf0 := blk_frozen K10f.out 0; have pc1 : w13.cell? ⟨g10, 1, none⟩ = some (.int .i64 cu) := (blk_cell K10f.out 1).trans rfl; have pf1 := blk_frozen K10f.out 1; have pc2 : w13.cell? ⟨g10, 2, none⟩ = some (.int .i64 am) := (blk_cell K10f.out 2).trans rfl; have pf2 := blk_frozen K10f.out 2; have rc0 : w13.cell? ⟨g8, 0, none⟩ = some (.slice none 0 0) := (blk_cell K8f.out 0).trans rfl; have rf0 := blk_frozen K8f.out 0; clear hb hd xe) | ((with_reducible refine gate_dst (N := 60) rfl ?_); have B14 := Aside0.mk (below_setB B13.out (p := ⟨g10, 2, none⟩) G10.out.1 (.int .i64 s)); have K10g := Aside0.mk (blk_put K10f.out 2 (.int .i64 s) (cs' := #[.int .i64 e, .int .i64 cu, .int .i64 s]) rfl); have K4g := Aside0.mk (blk_far K4f.out (p := ⟨g10, 2, none⟩) (Nat.ne_of_lt (Nat.lt_trans G8.out.2 G10.out.2)) (.int .i64 s)); have K8g := Aside0.mk (blk_far K8f.out (p := ⟨g10, 2, none⟩) (Nat.ne_of_lt G10.out.2) (.int .i64 s)); clear pc0 pf0 pc1 pf1 pc2 pf2 qc0 qf0 rc0 rf0 K4f K8f K10f; generalize (w13.setCell ⟨g10, 2, none⟩ (.int .i64 s)) = w14 at B14 K4g K8g K10g ⊢; have qc0 : w14.cell? ⟨g4, 0, none⟩ = some (.slice (some ad) n c) := (blk_cell K4g.out 0).trans rfl; have qf0 := blk_frozen K4g.out 0; have pc0 : w14.cell? ⟨g10, 0, none⟩ = some (.int .i64 e) := (blk_cell K10g.out 0).trans rfl; have pf0 := blk_frozen K10g.out 0; have pc1 : w14.cell? ⟨g10, 1, none⟩ = some (.int .i64 cu) := (blk_cell K10g.out 1).trans rfl; have pf1 := blk_frozen K10g.out 1; have pc2 : w14.cell? ⟨g10, 2, none⟩ = some (.int .i64 s) := (blk_cell K10g.out 2).trans rfl; have pf2 := blk_frozen K10g.out 2; have rc0 : w14.cell? ⟨g8, 0, none⟩ = some (.slice none 0 0) := (blk_cell K8g.out 0).trans rfl; have rf0 := blk_frozen K8g.out 0) | (go_at_call 31; refine (clone_calls (w := w14) HNN.out.symm (Kd.C_below HC.out B14.out) (by have := HL.out; omega)).mono ?_; rintro x w15 ⟨v15, rfl, hO, hb⟩; obtain ⟨g15, c15, e15, hb15, hs15, -⟩ := Kd.R_form hO (by have := KN.out; have := HNN.out; omega); subst e15; have G15 := Aside0.mk hb15; clear hb15 hs15; rw [HNN.out] at hO ⊢; have O15 := Aside0.mk (Kd.R_mono (ok' := fun k => k ≠ g8 ∧ k ≠ g10) (Kd.R_bound hO) (fun k hk => ⟨Nat.ne_of_gt (Nat.lt_of_lt_of_le (blk_lt K8g.out) hk.2.1), Nat.ne_of_gt (Nat.lt_of_lt_of_le (blk_lt K10g.out) hk.2.1)⟩)); have B15 := Aside0.mk (below_step B14.out hb); have K4h := Aside0.mk (blk_below K4g.out hb); have K8h := Aside0.mk (blk_below K8g.out hb); have K10h := Aside0.mk (blk_below K10g.out hb); clear pc0 pf0 pc1 pf1 pc2 pf2 qc0 qf0; have qc0 : w15.cell? ⟨g4, 0, none⟩ = some (.slice (some ad) n c) := (blk_cell K4h.out 0).trans rfl; have qf0 := blk_frozen K4h.out 0; have pc0 : w15.cell? ⟨g10, 0, none⟩ = some (.int .i64 e) := (blk_cell K10h.out 0).trans rfl; have pf0 := blk_frozen K10h.out 0; have pc1 : w15.cell? ⟨g10, 1, none⟩ = some (.int .i64 cu) := (blk_cell K10h.out 1).trans rfl; have pf1 := blk_frozen K10h.out 1; have pc2 : w15.cell? ⟨g10, 2, none⟩ = some (.int .i64 s) := (blk_cell K10h.out 2).trans rfl; have pf2 := blk_frozen K10h.out 2; have rc0 : w15.cell? ⟨g8, 0, none⟩ = some (.slice none 0 0) := (blk_cell K8h.out 0).trans rfl; have rf0 := blk_frozen K8h.out 0; clear hb hO) | ((with_reducible refine gate_store (t := 63) (p := 80) (v := .tmp 79) rfl ?_); obtain ⟨oc, hol, -, hoc, -⟩ := Kd.R_elem O15.out z63 (k : Int) (by omega) (by have := KN.out; omega); rw [Int.toNat_natCast] at hoc; refine Kd.R_store k63 (w0 := w15) w14.heap.size rfl rfl 63 (.tmp 80) (.tmp 79) rfl 63 (k : Int) 0 l ⟨e, cu, s⟩ (.agg #[.int .i64 e, .int .i64 cu, .int .i64 s]) [.int .i64 e, .int .i64 cu, .int .i64 s] oc (fun k => k ≠ g8 ∧ k ≠ g10) (fun _ => False) rfl ?hoff rfl rfl (by kernel_rfl) ?h1 O15.out (by omega) (by have := KN.out; omega) hol (by rw [Int.toNat_natCast]; exact hoc) (Nat.le_refl 3) ?hM (fun _ h => h.elim) (Below.refl _ _) ?_; (case hoff => rw [Int.toNat_natCast]; first | rfl | (show _ = k * 3 + 0; omega)); (case h1 => intro q hq; simp at hq; rcases hq with rfl | rfl | rfl <;> rfl); (case hM => (rw [List.drop_of_length_le (by rw [hol]; exact Nat.le_refl 3), List.take_zero, List.nil_append, List.append_nil]; exact k63_mkM _ _ _ (⟨e, cu, s⟩ : S63))); intro w16 hO hb hg; rw [Int.toNat_natCast] at hO; have B16 := Aside0.mk (B15.out.trans (hb.mono B14.out.size)); have K8i := Aside0.mk (blk_grown K8h.out hg (fun e => by injection e with e; have := G15.out; have := blk_lt K8g.out; omega)); have O16 := Aside0.mk hO; clear hb hg hO hol hoc rc0 rf0; have rc0 : w16.cell? ⟨g8, 0, none⟩ = some (.slice none 0 0) := (blk_cell K8i.out 0).trans rfl; have rf0 := blk_frozen K8i.out 0))
  refine bodyPost_ret (results_ct rfl _ _ g8 48 #[.slice (some ⟨g15, 0, none⟩) n c15] (0, 0) _ rfl (blk_put K8i.out 0 (.slice (some ⟨g15, 0, none⟩) n c15) (cs' := #[.slice (some ⟨g15, 0, none⟩) n c15]) rfl) Try.underlying48 rfl (by kernel_rfl)) rfl ?_
  exact ⟨_, rfl, Kd.R_lower (Kd.R_mono (Kd.R_far O16.out (p := ⟨g8, 0, none⟩) (fun k hk => hk.1) _) (fun _ _ => trivial)) B14.out.size, below_setB B16.out (p := ⟨g8, 0, none⟩) G8.out.1 _⟩
end Go.Proofs.Ytianljjmnpdkcaa.M
