/-
  (link.Links).Say and Hear: what is said to a node, and what was heard of it.
-/
import Derived.Test.YthgdojaildccaaaOLink2
import Derived.Test.YthgdojaildccaaaML5
namespace Go.Proofs.Ythgdojaildccaaa.M
open Go.RowKit Go.Proofs.YthgdojaildccaaaW.PrintWords Go.Proofs.YthgdojaildccaaaW.PrintLast Go.Proofs.YthgdojaildccaaaW.PrintMore
set_option linter.unusedVariables false
set_option linter.unusedSimpArgs false
/-- as many as may be cloned -/
def FitL (l : List S64) : Prop := l.length ≤ 9 ∧ ∀ x ∈ l, x.f0.length ≤ 4096 ∧ 0 ≤ x.f1 ∧ x.f1 ≤ 1000000
def sayL (l : List S64) (t : Nat) (m : S35) : List S64 := l.set t ⟨(rd_T64 l (t : Int)).f0 ++ [m], (rd_T64 l (t : Int)).f1⟩
def hearL (l : List S64) (t : Nat) : List S64 := l.set t ⟨(rd_T64 l (t : Int)).f0, (rd_T64 l (t : Int)).f1 + 1⟩
theorem rd_mem64 {l : List S64} {t : Nat} (h : t < l.length) : rd_T64 l (t : Int) ∈ l := by rw [rd_at h]; exact List.getElem_mem _
theorem other_yes {me : Int} {l : List S64} {t : Nat} (h : t < l.length) (hne : (t : Int) ≠ me) : link_Links_other.f me l (t : Int) = some true := by
  unfold link_Links_other.f
  rw [if_pos (show (t : Int) ≥ 0 by omega), if_pos (by omega)]
  congr 1
  exact bne_iff_ne.mpr hne
theorem other_no {me to_ : Int} {l : List S64} (h : ¬(0 ≤ to_ ∧ to_ < l.length ∧ to_ ≠ me)) : link_Links_other.f me l to_ = some false := by
  unfold link_Links_other.f
  by_cases h1 : to_ ≥ 0
  · rw [if_pos h1]
    by_cases h2 : to_ < (l.length : Int)
    · rw [if_pos h2]
      congr 1
      exact bne_eq_false_iff_eq.mpr (Decidable.byContradiction fun q => h ⟨h1, h2, q⟩)
    · rw [if_neg h2]
  · rw [if_neg h1]
theorem cloned_at {g cap t N : Nat} {vt : Value} {l : List S64} {W : World} {ok : Nat → Prop} (h : Kd.R (kQ vt) 64 W N ok (.slice (some ⟨g, 0, none⟩) l.length cap) (tags t l.length l)) (ht : t < l.length) :
    W.cell? ⟨g, t * 2, none⟩ = some vt ∧ W.cell? ⟨g, t * 2 + 1, none⟩ = some (.int .i64 (rd_T64 l (t : Int)).f1) ∧ vt.oneCell' = true := by
  obtain ⟨ad, cc, ea, hcl, hK, hcell⟩ := Kd.C_get (Kd.R_reads' h).2.2 (z64, 0) (t : Int) (by omega) (by rw [tags_len]; omega)
  injection ea with ea
  subst ea
  rw [Int.toNat_natCast] at hK hcell
  have hel : (tags t l.length l).getD t (z64, 0) = (l[t], 2) := by rw [List.getD_eq_getElem?_getD, tags_at ht]; simp [ht]
  rw [hel] at hK
  rcases hK with ⟨h, -⟩ | ⟨-, h1, h2⟩
  · exact absurd (show (2 : Nat) = 2 from rfl) h
  · subst h2
    exact ⟨blk_at (hcell 0 _ rfl), by rw [rd_at ht]; exact blk_at1 (hcell 1 _ rfl), h1⟩
/-- t's element is written -/
theorem seg_set {W : World} {g cap t j N : Nat} {ok : Nat → Prop} {vt u : Value} {l : List S64} {x : S64} (h : Kd.R (kQ vt) 64 W N ok (.slice (some ⟨g, 0, none⟩) l.length cap) (tags t l.length l)) (ht : t < l.length)
    (hj : j + 1 ≤ 2) {v : Value} (hv : k35.R 35 W N (fun k => ok k ∧ k ≠ g) v x.f0) (hc : ([vt, .int .i64 (rd_T64 l (t : Int)).f1].take j ++ [u] ++ [vt, .int .i64 (rd_T64 l (t : Int)).f1].drop (j + 1)) = [v, .int .i64 x.f1]) :
    Kd.R k64 64 (W.setCell ⟨g, t * 2 + j, none⟩ u) N ok (.slice (some ⟨g, 0, none⟩) l.length cap) (l.set t x) := by
  obtain ⟨c0, c1, _⟩ := cloned_at h ht
  have hcc : ∀ (j : Nat) (u : Value), [vt, .int .i64 (rd_T64 l (t : Int)).f1][j]? = some u → W.cell? ⟨g, ((t : Int)).toNat * (kQ vt).sz + j, none⟩ = some u := by
    rintro (_ | _ | j) u hj
    · injection hj with hj; subst hj; exact c0
    · injection hj with hj; subst hj; exact c1
    · simp at hj
  have h1 := (Kd.R_seg h (t : Int) (by omega) (by omega) (c := [vt, .int .i64 (rd_T64 l (t : Int)).f1]) (seg := [u]) (j := j) rfl hcc hj (x' := (x, 1)) (okp := fun k => ok k ∧ k ≠ g) (by show (kQ vt).M W N (fun k => ok k ∧ k ≠ g) (x, 1) ([vt, .int .i64 (rd_T64 l (t : Int)).f1].take j ++ [u] ++ [vt, .int .i64 (rd_T64 l (t : Int)).f1].drop (j + 1)); rw [hc]; exact .inl ⟨by show (1 : Nat) ≠ 2; decide, k64_mkM W N _ x hv⟩) (fun k hk => hk)).1
  have h2 : Kd.R (kQ vt) 64 (W.setCell ⟨g, t * 2 + j, none⟩ u) N ok (.slice (some ⟨g, 0, none⟩) l.length cap) ((tags t l.length l).set t (x, 1)) := h1
  have h3 := R_ofQ h2 (tags_done x)
  rw [tags_map] at h3
  exact h3
set_option maxHeartbeats 8000000 in
set_option maxRecDepth 100000 in
theorem links_Say_bad {A : Option Addr} {n c : Nat} {me to_ : Int} {l : List S64} {m : S35} {A8 : Option Addr} {C8 : Nat} {A9 : Option Addr} {C9 : Nat} {w : World} (hn : n = l.length) (hC : Kd.C k64 w A l.length l) (hc : l.length ≤ c) (h : ¬(0 ≤ to_ ∧ to_ < l.length ∧ to_ ≠ me)) :
    Calls Try.prog 20 #[.agg #[.int .i64 me, .slice A n c], .int .i64 to_, mgV m (.slice A8 m.f8.length C8) (.slice A9 m.f9.length C9)] w fun x w' => x = .returned (.tuple #[.agg #[.int .i64 me, .slice A l.length c], .int .i64 1]) ∧ Below w.heap.size w w' := by
  have B0 := Aside0.mk (Below.refl w.heap.size w)
  subst hn
  have HC := Aside0.mk hC; have HO := Aside0.mk (other_no h)
  clear hC h
  go_enter Try.func20, Try.ntmps20
  go_wp2_with (first | ((with_reducible refine gate_dst (N := 3) rfl ?_); refine box_event ?hg (N := 3) ?hd (cs := #[.int .i64 me, .slice A l.length c]) (t := 55) ?hr ?_; (case hd => rfl); (case hg => rfl); (case hr => first | (go_simp; done) | (go_simp; rfl)); intro g3 hg w1 hbox hb; have B1 := Aside0.mk (below_step B0.out hb); have P1 := Aside0.mk hbox; have G3 := Aside0.mk (show w.heap.size ≤ g3 from by rw [hg]; exact Nat.le_refl _); clear hb hg hbox) | ((with_reducible refine gate_dst (N := 5) rfl ?_); refine box_event ?hg (N := 5) ?hd (cs := #[.int .i64 m.f0, .int .i64 m.f1.f0, .int .i64 m.f1.f1, .int .i64 m.f2, .int .i64 m.f3, .int .i64 m.f4, .int .i64 m.f5, .int .i64 m.f6, .bool m.f7, .slice A8 m.f8.length C8, .slice A9 m.f9.length C9]) (t := 35) ?hr ?_; (case hd => rfl); (case hg => rfl); (case hr => first | (go_simp; done) | (go_simp; rfl)); intro g5 hg w2 hbox hb; have B2 := Aside0.mk (below_step B1.out hb); have P2 := Aside0.mk (blk_below P1.out hb); have M2 := Aside0.mk hbox; have G5 := Aside0.mk (show w.heap.size ≤ g5 ∧ g3 < g5 from ⟨by rw [hg]; exact B1.out.size, by rw [hg]; exact blk_lt P1.out⟩); clear hb hg hbox) | ((with_reducible refine gate_dst (N := 6) rfl ?_); refine box_event ?hg (N := 6) ?hd (cs := #[.int .i64 0, .slice none 0 0]) (t := 55) ?hr ?_; (case hd => rfl); (case hg => rfl); (case hr => first | (go_simp; done) | (go_simp; rfl)); intro g6 hg w3 hbox hb; have B3 := Aside0.mk (below_step B2.out hb); have P3 := Aside0.mk (blk_below P2.out hb); have M3 := Aside0.mk (blk_below M2.out hb); have Q3 := Aside0.mk hbox; have G6 := Aside0.mk (show w.heap.size ≤ g6 ∧ g3 < g6 ∧ g5 < g6 from ⟨by rw [hg]; exact B2.out.size, by rw [hg]; exact blk_lt P2.out, by rw [hg]; exact blk_lt M2.out⟩); clear P1 P2 M2; have xc0 : w3.cell? ⟨g3, 0, none⟩ = some (.int .i64 me) := (blk_cell P3.out 0).trans rfl; have xf0 := blk_frozen P3.out 0; have xc1 : w3.cell? ⟨g3, 1, none⟩ = some (.slice A l.length c) := (blk_cell P3.out 1).trans rfl; have xf1 := blk_frozen P3.out 1; clear hb hg hbox))
  refine (link_Links_other.calls me A c l to_ _ w3 (Kd.C_below HC.out B3.out) hc HO.out).mono ?_; rintro x w4 ⟨rfl, hb⟩; have B4 := Aside0.mk (below_step B3.out hb); have P4 := Aside0.mk (blk_below P3.out hb); have Q4 := Aside0.mk (blk_below Q3.out hb); clear hb P3 Q3 xc0 xf0 xc1 xf1
  have xc0 : w4.cell? ⟨g3, 0, none⟩ = some (.int .i64 me) := (blk_cell P4.out 0).trans rfl; have xf0 := blk_frozen P4.out 0; have xc1 : w4.cell? ⟨g3, 1, none⟩ = some (.slice A l.length c) := (blk_cell P4.out 1).trans rfl; have xf1 := blk_frozen P4.out 1; have yc0 : w4.cell? ⟨g6, 0, none⟩ = some (.int .i64 0) := (blk_cell Q4.out 0).trans rfl; have yf0 := blk_frozen Q4.out 0; have yc1 : w4.cell? ⟨g6, 1, none⟩ = some (.slice none 0 0) := (blk_cell Q4.out 1).trans rfl; have yf1 := blk_frozen Q4.out 1
  go_wp2_with fail
  refine bodyPost_ret (results_ct rfl _ _ g6 55 #[.int .i64 me, .slice A l.length c] (0, 0) _ rfl (blk_put (blk_put Q4.out 0 (.int .i64 me) (cs' := #[.int .i64 me, .slice none 0 0]) rfl) 1 (.slice A l.length c) (cs' := #[.int .i64 me, .slice A l.length c]) rfl) Try.underlying55 rfl (by kernel_rfl)) rfl ?_
  exact ⟨rfl, (below_setB (below_setB B4.out (p := ⟨g6, 0, none⟩) G6.out.1 (.int .i64 me)) (p := ⟨g6, 1, none⟩) G6.out.1 (.slice A l.length c))⟩
set_option maxHeartbeats 8000000 in
set_option maxRecDepth 100000 in
theorem links_Say {t N : Nat} {ok : Nat → Prop} {A : Option Addr} {n c : Nat} {me : Int} {l : List S64} {m : S35} {A8 : Option Addr} {C8 : Nat} {A9 : Option Addr} {C9 : Nat} {w : World} (hn : n = l.length) (hN : N ≤ w.heap.size) (hR : Kd.R k64 64 w N ok (.slice A l.length c) l) (hf : FitL l) (ht : t < l.length) (hne : (t : Int) ≠ me) (hs : (rd_T64 l (t : Int)).f0.length < 4096) (h8 : Kd.C k47 w A8 m.f8.length m.f8) (h9 : Kd.C (Kd.int .i64) w A9 m.f9.length m.f9) (hm : FitM m) :
    Calls Try.prog 20 #[.agg #[.int .i64 me, .slice A n c], .int .i64 (t : Int), mgV m (.slice A8 m.f8.length C8) (.slice A9 m.f9.length C9)] w fun x w' => ∃ A' c', x = .returned (.tuple #[.agg #[.int .i64 me, .slice A' l.length c'], .int .i64 0]) ∧ Kd.R k64 64 w' N (OKN ok w) (.slice A' l.length c') (sayL l t m) ∧ Below w.heap.size w w' := by
  have B0 := Aside0.mk (Below.refl w.heap.size w)
  subst hn
  have hC := (Kd.R_reads' hR).2.2; have hc := (Kd.R_reads' hR).2.1
  have hR2 := Kd.R_mono (ok' := fun k => ok k ∧ k < w.heap.size) (Kd.R_bound hR) (fun k hk => ⟨hk.1, hk.2.2.1⟩)
  have HR := Aside0.mk hR2; have HN := Aside0.mk hN; have HC := Aside0.mk hC; have HO := Aside0.mk (other_yes ht hne); have HF := Aside0.mk hf; have HT := Aside0.mk ht; have HS := Aside0.mk hs; have H8 := Aside0.mk h8; have H9 := Aside0.mk h9; have HM := Aside0.mk hm
  clear hC hR hR2 hN hf ht hne hs h8 h9 hm
  go_enter Try.func20, Try.ntmps20
  go_wp2_with (first | ((with_reducible refine gate_dst (N := 3) rfl ?_); refine box_event ?hg (N := 3) ?hd (cs := #[.int .i64 me, .slice A l.length c]) (t := 55) ?hr ?_; (case hd => rfl); (case hg => rfl); (case hr => first | (go_simp; done) | (go_simp; rfl)); intro g3 hg w1 hbox hb; have B1 := Aside0.mk (below_step B0.out hb); have P1 := Aside0.mk hbox; have G3 := Aside0.mk (show w.heap.size ≤ g3 from by rw [hg]; exact Nat.le_refl _); clear hb hg hbox) | ((with_reducible refine gate_dst (N := 5) rfl ?_); refine box_event ?hg (N := 5) ?hd (cs := #[.int .i64 m.f0, .int .i64 m.f1.f0, .int .i64 m.f1.f1, .int .i64 m.f2, .int .i64 m.f3, .int .i64 m.f4, .int .i64 m.f5, .int .i64 m.f6, .bool m.f7, .slice A8 m.f8.length C8, .slice A9 m.f9.length C9]) (t := 35) ?hr ?_; (case hd => rfl); (case hg => rfl); (case hr => first | (go_simp; done) | (go_simp; rfl)); intro g5 hg w2 hbox hb; have B2 := Aside0.mk (below_step B1.out hb); have P2 := Aside0.mk (blk_below P1.out hb); have M2 := Aside0.mk hbox; have G5 := Aside0.mk (show w.heap.size ≤ g5 ∧ g3 < g5 from ⟨by rw [hg]; exact B1.out.size, by rw [hg]; exact blk_lt P1.out⟩); clear hb hg hbox) | ((with_reducible refine gate_dst (N := 6) rfl ?_); refine box_event ?hg (N := 6) ?hd (cs := #[.int .i64 0, .slice none 0 0]) (t := 55) ?hr ?_; (case hd => rfl); (case hg => rfl); (case hr => first | (go_simp; done) | (go_simp; rfl)); intro g6 hg w3 hbox hb; have B3 := Aside0.mk (below_step B2.out hb); have P3 := Aside0.mk (blk_below P2.out hb); have M3 := Aside0.mk (blk_below M2.out hb); have Q3 := Aside0.mk hbox; have G6 := Aside0.mk (show w.heap.size ≤ g6 ∧ g3 < g6 ∧ g5 < g6 from ⟨by rw [hg]; exact B2.out.size, by rw [hg]; exact blk_lt P2.out, by rw [hg]; exact blk_lt M2.out⟩); clear P1 P2 M2; have xc0 : w3.cell? ⟨g3, 0, none⟩ = some (.int .i64 me) := (blk_cell P3.out 0).trans rfl; have xf0 := blk_frozen P3.out 0; have xc1 : w3.cell? ⟨g3, 1, none⟩ = some (.slice A l.length c) := (blk_cell P3.out 1).trans rfl; have xf1 := blk_frozen P3.out 1; clear hb hg hbox))
  refine (link_Links_other.calls me A c l t _ w3 (Kd.C_below HC.out B3.out) hc HO.out).mono ?_; rintro x w4 ⟨rfl, hb⟩; have B4 := Aside0.mk (below_step B3.out hb); have P4 := Aside0.mk (blk_below P3.out hb); have Q4 := Aside0.mk (blk_below Q3.out hb); have M4 := Aside0.mk (blk_below M3.out hb); clear hb P3 Q3 M3 xc0 xf0 xc1 xf1
  have xc0 : w4.cell? ⟨g3, 0, none⟩ = some (.int .i64 me) := (blk_cell P4.out 0).trans rfl; have xf0 := blk_frozen P4.out 0; have xc1 : w4.cell? ⟨g3, 1, none⟩ = some (.slice A l.length c) := (blk_cell P4.out 1).trans rfl; have xf1 := blk_frozen P4.out 1
  obtain ⟨ad, A0, c0, ea, y0, y1, l0, g0⟩ := at_T64 (Kd.C_below HC.out B4.out) (t : Int) (by omega) (by have := HT.out; omega)
  subst ea
  rw [Int.toNat_natCast] at y0 y1
  have hi0 : (0 : Int) ≤ (t : Int) := by omega
  have hi1 : (t : Int) < (l.length : Int) := by have := HT.out; omega
  have q1 := eq_true hi0; have q2 := eq_true hi1; have q3 : decide ((0 : Int) ≤ (t : Int)) = true := decide_eq_true hi0
  have z1 : decide (((rd_T64 l (t : Int)).f0.length : Int) ≥ 4096) = false := decide_eq_false (by have := HS.out; omega)
  have z2 : decide (4096 ≤ ((rd_T64 l (t : Int)).f0.length : Int)) = false := decide_eq_false (by have := HS.out; omega)
  have z3 : decide (4096 ≤ (rd_T64 l (t : Int)).f0.length) = false := decide_eq_false (by have := HS.out; omega)
  have z4 : (4096 ≤ (rd_T64 l (t : Int)).f0.length) = False := eq_false (by have := HS.out; omega)
  clear l0 g0 hi0 hi1
  go_wp2_with fail
  refine (links_Clone (ok := fun k => ok k ∧ k < w.heap.size) (t := t) (me := me) rfl (Nat.le_trans HN.out B4.out.size) (Kd.R_below HR.out B4.out) HT.out (by have := HF.out.1; omega) (fun x hx => by have := (HF.out.2 x hx).1; omega)).mono ?_
  rintro x w5 ⟨g, cap, vt, rfl, hg, hvt, hO, hTt, hb⟩
  obtain ⟨Av, cv, ev⟩ := Kd.R_slice hTt
  subst ev
  have B5 := Aside0.mk (below_step B4.out hb); have Q5 := Aside0.mk (blk_below Q4.out hb); have M5 := Aside0.mk (blk_below M4.out hb); have C5 := Aside0.mk hb; have O5 := Aside0.mk hO; have T5 := Aside0.mk hTt
  have G := Aside0.mk hg; have VT := Aside0.mk hvt; have Q4_ := Aside0.mk Q4.out; have M4_ := Aside0.mk M4.out
  clear hb hg hvt hO hTt P4 Q4 M4 y0 y1 z1 z2 z3 z4 xc0 xf0 xc1 xf1
  go_upto_region 6 with (first | ((with_reducible refine gate_dst (N := 8) rfl ?_); refine box_event ?hg (N := 8) ?hd (cs := #[.int .i64 0, .slice none 0 0]) (t := 55) ?hr ?_; (case hd => rfl); (case hg => rfl); (case hr => first | (go_simp; done) | (go_simp; rfl)); intro g8 hg w6m hbox hb; have ZB := Aside0.mk hb; have ZX := Aside0.mk hbox; have X6g := Aside0.mk (show w5.heap.size ≤ g8 from by rw [hg]; exact Nat.le_refl _); have x_zc0 : w6m.cell? ⟨g8, 0, none⟩ = some (.int .i64 0) := (blk_cell ZX.out 0).trans rfl; have x_zf0 := blk_frozen ZX.out 0; have x_zc1 : w6m.cell? ⟨g8, 1, none⟩ = some (.slice none 0 0) := (blk_cell ZX.out 1).trans rfl; have x_zf1 := blk_frozen ZX.out 1; clear hb hg hbox))
  have NB6 := Aside0.mk (below_setB (below_setB ZB.out (p := ⟨g8, 0, none⟩) X6g.out (.int .i64 me)) (p := ⟨g8, 1, none⟩) X6g.out (.slice (some ⟨g, 0, none⟩) l.length cap)); have X6 := Aside0.mk (blk_put (blk_put ZX.out 0 (.int .i64 me) (cs' := #[.int .i64 me, .slice none 0 0]) rfl) 1 (.slice (some ⟨g, 0, none⟩) l.length cap) (cs' := #[.int .i64 me, .slice (some ⟨g, 0, none⟩) l.length cap]) rfl); clear ZB ZX x_zc0 x_zf0 x_zc1 x_zf1; generalize ((w6m.setCell ⟨g8, 0, none⟩ (.int .i64 me)).setCell ⟨g8, 1, none⟩ (.slice (some ⟨g, 0, none⟩) l.length cap)) = w6 at NB6 X6 ⊢; have B6 := Aside0.mk (below_step B5.out NB6.out); have Q6 := Aside0.mk (blk_below Q5.out NB6.out); have M6 := Aside0.mk (blk_below M5.out NB6.out); have C6 := Aside0.mk (below_step C5.out NB6.out); have O5_ := Aside0.mk O5.out; have N6 := Aside0.mk (show N ≤ w6.heap.size from Nat.le_trans HN.out (below_step B5.out NB6.out).size); have HG6 := Aside0.mk (show g < w6.heap.size from Nat.lt_of_lt_of_le (Kd.R_lt O5.out g rfl) NB6.out.size); have O6 := Aside0.mk (Kd.R_below O5.out NB6.out); have T6 := Aside0.mk (Kd.R_below T5.out NB6.out); 
  clear Q5 M5 C5 O5 T5
  refine start_ (n := 16) (S := fun w' => w'.cell? ⟨g8, 1, none⟩ = some (.slice (some ⟨g, 0, none⟩) l.length cap) ∧ w'.cell? ⟨g, t * 2, none⟩ = some (.slice Av (rd_T64 l (t : Int)).f0.length cv) ∧ w'.cell? ⟨g5, 0, none⟩ = some (.int .i64 m.f0) ∧ w'.cell? ⟨g5, 1, none⟩ = some (.int .i64 m.f1.f0) ∧ w'.cell? ⟨g5, 2, none⟩ = some (.int .i64 m.f1.f1) ∧ w'.cell? ⟨g5, 3, none⟩ = some (.int .i64 m.f2) ∧ w'.cell? ⟨g5, 4, none⟩ = some (.int .i64 m.f3) ∧ w'.cell? ⟨g5, 5, none⟩ = some (.int .i64 m.f4) ∧ w'.cell? ⟨g5, 6, none⟩ = some (.int .i64 m.f5) ∧ w'.cell? ⟨g5, 7, none⟩ = some (.int .i64 m.f6) ∧ w'.cell? ⟨g5, 8, none⟩ = some (.bool m.f7) ∧ w'.cell? ⟨g5, 9, none⟩ = some (.slice A8 m.f8.length C8) ∧ w'.cell? ⟨g5, 10, none⟩ = some (.slice A9 m.f9.length C9)) (ds := [15]) #[false, false, false, false, false, false, false, false, false, false, false, false, false, false, false, false] (by kernel_rfl) rfl rfl ⟨(blk_cell (blk_drew X6.out) 1).trans rfl, (cloned_at (Kd.R_drew O6.out) HT.out).1, (blk_cell (blk_drew M6.out) 0).trans rfl, (blk_cell (blk_drew M6.out) 1).trans rfl, (blk_cell (blk_drew M6.out) 2).trans rfl, (blk_cell (blk_drew M6.out) 3).trans rfl, (blk_cell (blk_drew M6.out) 4).trans rfl, (blk_cell (blk_drew M6.out) 5).trans rfl, (blk_cell (blk_drew M6.out) 6).trans rfl, (blk_cell (blk_drew M6.out) 7).trans rfl, (blk_cell (blk_drew M6.out) 8).trans rfl, (blk_cell (blk_drew M6.out) 9).trans rfl, (blk_cell (blk_drew M6.out) 10).trans rfl⟩ (fun hHeld => ?_)
  refine pure_ (i := 0) (N := some 27) (v := ?_) (a' := ?_) #[true, false, false, false, false, false, false, false, false, false, false, false, false, false, false, false] rfl rfl (by kernel_rfl) (fun _ _ _ h => h) (Or.inl ⟨by rfl, ?_⟩) ?_ ?_
  rotate_left
  · intro w'
    go_simp
    with_reducible rfl
  rotate_left
  · simp only [Act.put, List.setIfInBounds_toArray, List.set_cons_zero, List.set_cons_succ, i64_w, i32_w]
    rfl
  refine pure_ (i := 2) (N := some 29) (v := ?_) (a' := ?_) #[true, false, true, false, false, false, false, false, false, false, false, false, false, false, false, false] rfl rfl (by kernel_rfl) (fun _ _ _ h => h) (Or.inl ⟨by rfl, ?_⟩) ?_ ?_
  rotate_left
  · intro w'
    go_simp
    with_reducible rfl
  rotate_left
  · simp only [Act.put, List.setIfInBounds_toArray, List.set_cons_zero, List.set_cons_succ, i64_w, i32_w]
    rfl
  refine pure_ (i := 3) (N := some 30) (v := ?_) (a' := ?_) #[true, false, true, true, false, false, false, false, false, false, false, false, false, false, false, false] rfl rfl (by kernel_rfl) (fun _ _ _ h => h) (Or.inl ⟨by rfl, ?_⟩) ?_ ?_
  rotate_left
  · intro w'
    go_simp
    with_reducible rfl
  rotate_left
  · simp only [Act.put, List.setIfInBounds_toArray, List.set_cons_zero, List.set_cons_succ, i64_w, i32_w]
    rfl
  refine pure_ (i := 5) (N := some 32) (v := ?_) (a' := ?_) #[true, false, true, true, false, true, false, false, false, false, false, false, false, false, false, false] rfl rfl (by kernel_rfl) (fun _ _ _ h => h) (Or.inl ⟨by rfl, ?_⟩) ?_ ?_
  rotate_left
  · intro w'
    go_simp
    with_reducible rfl
  rotate_left
  · simp only [Act.put, List.setIfInBounds_toArray, List.set_cons_zero, List.set_cons_succ, i64_w, i32_w]
    rfl
  refine take_ (i := 1) (N := some 28) (v := ?_) (a' := ?_) #[true, true, true, true, false, true, false, false, false, false, false, false, false, false, false, false] rfl rfl (by kernel_rfl) (fun _ _ _ h => h) (Or.inl ⟨by rfl, ?_⟩) hHeld ?_ ?_
  rotate_left
  · rintro w' ⟨s0, s1, s2, s3, s4, s5, s6, s7, s8, s9, s10, s11, s12⟩
    go_simp
    with_reducible rfl
  rotate_left
  · simp only [Act.put, List.setIfInBounds_toArray, List.set_cons_zero, List.set_cons_succ, i64_w, i32_w]
    rfl
  refine take_ (i := 4) (N := some 31) (v := ?_) (a' := ?_) #[true, true, true, true, true, true, false, false, false, false, false, false, false, false, false, false] rfl rfl (by kernel_rfl) (fun _ _ _ h => h) (Or.inl ⟨by rfl, ?_⟩) hHeld ?_ ?_
  rotate_left
  · rintro w' ⟨s0, s1, s2, s3, s4, s5, s6, s7, s8, s9, s10, s11, s12⟩
    go_simp
    with_reducible rfl
  rotate_left
  · simp only [Act.put, List.setIfInBounds_toArray, List.set_cons_zero, List.set_cons_succ, i64_w, i32_w]
    rfl
  refine pure_ (i := 6) (N := some 33) (v := ?_) (a' := ?_) #[true, true, true, true, true, true, true, false, false, false, false, false, false, false, false, false] rfl rfl (by kernel_rfl) (fun _ _ _ h => h) (Or.inl ⟨by rfl, ?_⟩) ?_ ?_
  rotate_left
  · intro w'
    go_simp
    with_reducible rfl
  rotate_left
  · simp only [Act.put, List.setIfInBounds_toArray, List.set_cons_zero, List.set_cons_succ, i64_w, i32_w]
    rfl
  refine pure_ (i := 7) (N := some 34) (v := ?_) (a' := ?_) #[true, true, true, true, true, true, true, true, false, false, false, false, false, false, false, false] rfl rfl (by kernel_rfl) (fun _ _ _ h => h) (Or.inl ⟨by rfl, ?_⟩) ?_ ?_
  rotate_left
  · intro w'
    go_simp
    with_reducible rfl
  rotate_left
  · simp only [Act.put, List.setIfInBounds_toArray, List.set_cons_zero, List.set_cons_succ, i64_w, i32_w]
    rfl
  refine take_ (i := 8) (N := some 35) (v := ?_) (a' := ?_) #[true, true, true, true, true, true, true, true, true, false, false, false, false, false, false, false] rfl rfl (by kernel_rfl) (fun _ _ _ h => h) (Or.inl ⟨by rfl, ?_⟩) hHeld ?_ ?_
  rotate_left
  · rintro w' ⟨s0, s1, s2, s3, s4, s5, s6, s7, s8, s9, s10, s11, s12⟩
    go_simp
    with_reducible rfl
  rotate_left
  · simp only [Act.put, List.setIfInBounds_toArray, List.set_cons_zero, List.set_cons_succ, i64_w, i32_w]
    rfl
  refine take_ (i := 9) (N := some 36) (v := ?_) (a' := ?_) #[true, true, true, true, true, true, true, true, true, true, false, false, false, false, false, false] rfl rfl (by kernel_rfl) (fun _ _ _ h => h) (Or.inl ⟨by rfl, ?_⟩) hHeld ?_ ?_
  rotate_left
  · rintro w' ⟨s0, s1, s2, s3, s4, s5, s6, s7, s8, s9, s10, s11, s12⟩
    go_simp
    with_reducible rfl
  rotate_left
  · simp only [Act.put, List.setIfInBounds_toArray, List.set_cons_zero, List.set_cons_succ, i64_w, i32_w]
    rfl
  refine one_ (i := 10) (N := some 37) #[true, true, true, true, true, true, true, true, true, true, true, false, false, false, false, false] rfl rfl (by kernel_rfl) (by decide) (fun K hK => ?_)
  refine goes_ Try.func29 (by kernel_rfl) rfl #[.agg #[.int .i64 m.f0, .int .i64 m.f1.f0, .int .i64 m.f1.f1, .int .i64 m.f2, .int .i64 m.f3, .int .i64 m.f4, .int .i64 m.f5, .int .i64 m.f6, .bool m.f7, .slice A8 m.f8.length C8, .slice A9 m.f9.length C9]] (by rfl) rfl rfl (by simp only [List.map_toArray, List.map_cons, List.map_nil]; rfl) ?_
  with_reducible refine (mcopied_calls (m := m) (w := w6.drew) (Kd.C_below H8.out (below_drew B6.out)) (Kd.C_below H9.out (below_drew B6.out)) HM.out).mono ?_
  rintro x w7 ⟨v7, rfl, ⟨v8, v9_, rfl, hO, hQ⟩, hb⟩
  refine ⟨_, rfl, ?_⟩
  obtain ⟨B8_, D8, e8, l8, hC8⟩ := Kd.R_reads hO
  obtain ⟨B9_, D9, e9, l9, hC9⟩ := Kd.R_reads hQ
  subst e8 e9
  have U7 := Aside0.mk (Kd.R_mono (ok' := fun k => w6.heap.size ≤ k) (Kd.R_bound hO) (fun k hk => hk.2.1))
  have V7 := Aside0.mk (Kd.R_mono (ok' := fun k => w6.heap.size ≤ k) (Kd.R_bound hQ) (fun k hk => hk.2.1))
  have hh7 := (below_step (below_drew (Below.refl w6.heap.size w6)) hb).size
  have N7 := Aside0.mk (And.intro hh7 (Nat.le_trans N6.out hh7))
  clear hh7
  have B7 := Aside0.mk (below_step (below_drew B6.out) hb)
  have Q7 := Aside0.mk (blk_below (blk_drew Q6.out) hb)
  have M7 := Aside0.mk (blk_below (blk_drew M6.out) hb)
  have X7 := Aside0.mk (blk_below (blk_drew X6.out) hb)
  have C7 := Aside0.mk (below_step (below_drew C6.out) hb)
  have O7 := Aside0.mk (Kd.R_below (Kd.R_drew O6.out) hb)
  have T7 := Aside0.mk (Kd.R_below (Kd.R_drew T6.out) hb)
  clear hO hQ hb l8 l9 hC8 hC9
  dsimp only [mgV]
  refine hK.out _ _ ⟨(blk_cell X7.out 1).trans rfl, (cloned_at (O7.out) HT.out).1, (blk_cell M7.out 0).trans rfl, (blk_cell M7.out 1).trans rfl, (blk_cell M7.out 2).trans rfl, (blk_cell M7.out 3).trans rfl, (blk_cell M7.out 4).trans rfl, (blk_cell M7.out 5).trans rfl, (blk_cell M7.out 6).trans rfl, (blk_cell M7.out 7).trans rfl, (blk_cell M7.out 8).trans rfl, (blk_cell M7.out 9).trans rfl, (blk_cell M7.out 10).trans rfl⟩ (fun hHeld => ?_)
  clear hK K
  refine norm_ (a' := ?_) ?_ ?_
  rotate_left
  · show Act.put _ (some 37) _ = _
    simp only [Act.put, List.setIfInBounds_toArray, List.set_cons_zero, List.set_cons_succ, i64_w, i32_w]
    rfl
  refine one_ (i := 11) (N := some 38) #[true, true, true, true, true, true, true, true, true, true, true, true, false, false, false, false] rfl rfl (by kernel_rfl) (by decide) (fun K hK => ?_)
  refine Kd.R_lit_step k35 (w0 := w7) N 35 (by rfl) (N := 38) ?hd (xs := [m]) (inner := [.int .i64 m.f0, .int .i64 m.f1.f0, .int .i64 m.f1.f1, .int .i64 m.f2, .int .i64 m.f3, .int .i64 m.f4, .int .i64 m.f5, .int .i64 m.f6, .bool m.f7, .slice B8_ m.f8.length D8, .slice B9_ m.f9.length D9]) (ok := fun k_ => w6.heap.size ≤ k_) (okp := fun k_ => w6.heap.size ≤ k_) ?hr ?hp (fun _ hk => hk) N7.out.1 (Below.refl _ _) N7.out.2 (by simp) ?_
  (case hd => rfl)
  (case hr => first | (go_simp; done) | (go_simp; rfl))
  (case hp => exact Reps.front (k35_mkM w7 N (fun k_ => w6.heap.size ≤ k_) m (Kd.R_lower U7.out N6.out) (Kd.R_lower V7.out N6.out)) rfl (Reps.none _ _) (List.append_nil _))
  intro vL w8 hoL hb_ hg_ hnew_
  have hb : Below w7.heap.size w7 w8 := ⟨hg_.os, hg_.tape, hg_.output, hg_.size, fun k hk => hg_.block k hk (by simp)⟩
  obtain ⟨AL, cL, eL, hlL, hrL⟩ := OwnRow.reads hoL.2
  subst eL
  have RL := Aside0.mk hrL
  have C68 := Aside0.mk (Nat.le_trans N7.out.1 hb.size)
  have B8 := Aside0.mk (below_step B7.out hb)
  have Q8 := Aside0.mk (blk_below Q7.out hb)
  have M8 := Aside0.mk (blk_below M7.out hb)
  have X8 := Aside0.mk (blk_below X7.out hb)
  have C8x := Aside0.mk (below_step C7.out hb)
  have O8 := Aside0.mk (Kd.R_below O7.out hb)
  have T8 := Aside0.mk (Kd.R_below T7.out hb)
  clear hoL hb hb_ hg_ hnew_ hrL hlL
  refine hK.out _ _ ⟨(blk_cell X8.out 1).trans rfl, (cloned_at (O8.out) HT.out).1, (blk_cell M8.out 0).trans rfl, (blk_cell M8.out 1).trans rfl, (blk_cell M8.out 2).trans rfl, (blk_cell M8.out 3).trans rfl, (blk_cell M8.out 4).trans rfl, (blk_cell M8.out 5).trans rfl, (blk_cell M8.out 6).trans rfl, (blk_cell M8.out 7).trans rfl, (blk_cell M8.out 8).trans rfl, (blk_cell M8.out 9).trans rfl, (blk_cell M8.out 10).trans rfl⟩ (fun hHeld => ?_)
  clear hK K
  refine norm_ (a' := ?_) ?_ ?_
  rotate_left
  · show Act.put _ (some 38) _ = _
    simp only [Act.put, List.setIfInBounds_toArray, List.set_cons_zero, List.set_cons_succ, i64_w, i32_w]
    rfl
  refine one_ (i := 12) (N := some 39) #[true, true, true, true, true, true, true, true, true, true, true, true, true, false, false, false] rfl rfl (by kernel_rfl) (by decide) (fun K hK => ?_)
  refine Kd.R_append_rows_step k35 (Rr := k35.M w8 N (fun k_ => w6.heap.size ≤ k_ ∧ some k_ ≠ (Value.slice AL 1 cL).ownBlock)) (w0 := w8) N (by rfl) (.tmp 35) (.tmp 38) 52 35 (.agg #[.int .i64 0, .int .i64 0, .int .i64 0, .int .i64 0, .int .i64 0, .int .i64 0, .int .i64 0, .int .i64 0, .bool false, .slice none 0 0, .slice none 0 0]) 120 rfl Try.underlying52 info35_ rfl (by decide) (by omega) (.slice Av (rd_T64 l (t : Int)).f0.length cv) (rd_T64 l (t : Int)).f0 [m] _ _ _ (fun k => OKN (fun k => ok k ∧ k < w.heap.size) w4 k ∧ k ≠ g) (fun k_ => w6.heap.size ≤ k_ ∧ some k_ ≠ (Value.slice AL 1 cL).ownBlock) rfl rfl ?aO ?aR (fun _ _ h => h) ?aK ?aF ?aB ?aS ?aL ?_
  (case aO => exact T8.out)
  (case aR => exact RL.out)
  (case aK => exact fun k hk => ⟨⟨.inr (Nat.le_trans C6.out.size hk.1), fun e => by have := hk.1; have := HG6.out; omega⟩, fun e => by have := Kd.R_lt T6.out k e.symm; have := hk.1; omega⟩)
  (case aF => exact fun k hk => ⟨.inr (Nat.le_trans C8x.out.size hk), fun e => by have := HG6.out; have := C68.out; omega⟩)
  (case aB => exact Below.refl _ _)
  (case aS => exact Nat.le_trans N6.out C68.out)
  (case aL => have := HS.out; first | omega | (simp only [List.length_singleton]; omega))
  intro v9 w9 ho hb hg hat
  obtain ⟨A9v, c9v, e9v⟩ := Kd.R_slice ho
  subst e9v
  rw [List.length_append, List.length_singleton] at ho
  have B9 := Aside0.mk (below_grown B8.out hg (fun k e => Nat.le_trans B4.out.size (VT.out k e)))
  have hne : ∀ k, k < w4.heap.size → some k ≠ (Value.slice Av (rd_T64 l (t : Int)).f0.length cv).ownBlock := fun k hk e => by have := VT.out k e.symm; omega
  have Q9 := Aside0.mk (blk_grown Q8.out hg (hne g6 (blk_lt Q4_.out)))
  have M9 := Aside0.mk (blk_grown M8.out hg (hne g5 (blk_lt M4_.out)))
  have X9 := Aside0.mk (blk_grown X8.out hg (Kd.R_ne T8.out X8.out (by decide)))
  have O9 := Aside0.mk (Kd.R_grown O8.out hg (fun k hk => hk.2))
  have T9 := Aside0.mk ho
  have c9 := (cloned_at O9.out HT.out)
  obtain ⟨cur, hcur⟩ := Kd.R_typed O9.out g rfl
  have yf := blk_frozen hcur (t * 2)
  have yc := c9.1
  clear ho hb hg hat hne hcur c9
  refine hK.out _ _ ⟨(blk_cell X9.out 1).trans rfl, (cloned_at (O9.out) HT.out).1, (blk_cell M9.out 0).trans rfl, (blk_cell M9.out 1).trans rfl, (blk_cell M9.out 2).trans rfl, (blk_cell M9.out 3).trans rfl, (blk_cell M9.out 4).trans rfl, (blk_cell M9.out 5).trans rfl, (blk_cell M9.out 6).trans rfl, (blk_cell M9.out 7).trans rfl, (blk_cell M9.out 8).trans rfl, (blk_cell M9.out 9).trans rfl, (blk_cell M9.out 10).trans rfl⟩ (fun hHeld => ?_)
  clear hK K
  refine norm_ (a' := ?_) ?_ ?_
  rotate_left
  · show Act.put _ (some 39) _ = _
    simp only [Act.put, List.setIfInBounds_toArray, List.set_cons_zero, List.set_cons_succ, i64_w, i32_w]
    rfl
  refine pure_ (i := 13) (N := some 40) (v := ?_) (a' := ?_) #[true, true, true, true, true, true, true, true, true, true, true, true, true, true, false, false] rfl rfl (by kernel_rfl) (fun _ _ _ h => h) (Or.inl ⟨by rfl, ?_⟩) ?_ ?_
  rotate_left
  · intro w'
    go_simp
    with_reducible rfl
  rotate_left
  · simp only [Act.put, List.setIfInBounds_toArray, List.set_cons_zero, List.set_cons_succ, i64_w, i32_w]
    rfl
  refine pure_ (i := 14) (N := some 41) (v := ?_) (a' := ?_) #[true, true, true, true, true, true, true, true, true, true, true, true, true, true, true, false] rfl rfl (by kernel_rfl) (fun _ _ _ h => h) (Or.inl ⟨by rfl, ?_⟩) ?_ ?_
  rotate_left
  · intro w'
    go_simp
    with_reducible rfl
  rotate_left
  · simp only [Act.put, List.setIfInBounds_toArray, List.set_cons_zero, List.set_cons_succ, i64_w, i32_w]
    rfl
  refine last_ (i := 15) (N := none) #[true, true, true, true, true, true, true, true, true, true, true, true, true, true, true, true] rfl rfl (by kernel_rfl) (by decide) (fun K hK => ?_)
  refine skip_ (w1 := ?_) (by rfl) rfl ?_ ?_
  rotate_left
  · go_simp
    rfl
  refine hK.out _ _ ?_
  clear hK K
  refine done_ (by kernel_rfl) ?_
  have R10 := Aside0.mk (show Kd.R k64 64 (w9.setCell ⟨g, t * 2, none⟩ (.slice A9v ((rd_T64 l (t : Int)).f0.length + 1) c9v)) N (OKN (fun k => ok k ∧ k < w.heap.size) w4) (.slice (some ⟨g, 0, none⟩) l.length cap) (sayL l t m) from seg_set (j := 0) (u := .slice A9v ((rd_T64 l (t : Int)).f0.length + 1) c9v) (v := .slice A9v ((rd_T64 l (t : Int)).f0.length + 1) c9v) (x := ⟨(rd_T64 l (t : Int)).f0 ++ [m], (rd_T64 l (t : Int)).f1⟩) (Kd.R_mono O9.out (fun _ hk => hk.1)) HT.out (by decide) (by rw [show (⟨(rd_T64 l (t : Int)).f0 ++ [m], (rd_T64 l (t : Int)).f1⟩ : S64).f0 = (rd_T64 l (t : Int)).f0 ++ [m] from rfl]; exact T9.out) rfl)
  have B10 := Aside0.mk (below_setB B9.out (p := ⟨g, t * 2, none⟩) (show w.heap.size ≤ g by have := G.out; have := B4.out.size; omega) (.slice A9v ((rd_T64 l (t : Int)).f0.length + 1) c9v))
  have X10 := Aside0.mk (blk_far X9.out (p := ⟨g, t * 2, none⟩) (show g8 ≠ g by have := X6g.out; have := Kd.R_lt O5_.out g rfl; omega) (.slice A9v ((rd_T64 l (t : Int)).f0.length + 1) c9v))
  have Q10 := Aside0.mk (blk_far Q9.out (p := ⟨g, t * 2, none⟩) (show g6 ≠ g by have := blk_lt Q4_.out; have := G.out; omega) (.slice A9v ((rd_T64 l (t : Int)).f0.length + 1) c9v))
  clear yf yc
  generalize (w9.setCell ⟨g, t * 2, none⟩ (.slice A9v ((rd_T64 l (t : Int)).f0.length + 1) c9v)) = w10 at B10 X10 Q10 R10 ⊢
  have xc0 : w10.cell? ⟨g8, 0, none⟩ = some (.int .i64 me) := (blk_cell X10.out 0).trans rfl; have xf0 := blk_frozen X10.out 0; have xc1 : w10.cell? ⟨g8, 1, none⟩ = some (.slice (some ⟨g, 0, none⟩) l.length cap) := (blk_cell X10.out 1).trans rfl; have xf1 := blk_frozen X10.out 1; have yc0 : w10.cell? ⟨g6, 0, none⟩ = some (.int .i64 0) := (blk_cell Q10.out 0).trans rfl; have yf0 := blk_frozen Q10.out 0; have yc1 : w10.cell? ⟨g6, 1, none⟩ = some (.slice none 0 0) := (blk_cell Q10.out 1).trans rfl; have yf1 := blk_frozen Q10.out 1
  go_wp2_with fail
  refine bodyPost_ret (results_ct rfl _ _ g6 55 #[.int .i64 me, .slice (some ⟨g, 0, none⟩) l.length cap] (0, 0) _ rfl (blk_put (blk_put Q10.out 0 (.int .i64 me) (cs' := #[.int .i64 me, .slice none 0 0]) rfl) 1 (.slice (some ⟨g, 0, none⟩) l.length cap) (cs' := #[.int .i64 me, .slice (some ⟨g, 0, none⟩) l.length cap]) rfl) Try.underlying55 rfl (by kernel_rfl)) rfl ?_
  have hbb := (below_setB (below_setB B10.out (p := ⟨g6, 0, none⟩) G6.out.1 (.int .i64 me)) (p := ⟨g6, 1, none⟩) G6.out.1 (.slice (some ⟨g, 0, none⟩) l.length cap))
  have hl6 := blk_lt Q4_.out
  have hl7 := G6.out.1
  have hl8 := B4.out.size
  have hR := Kd.R_mono (ok' := OKN ok w) (Kd.R_kept R10.out (((Kept.refl w10 (fun k => k = g6)).setCell (p := ⟨g6, 0, none⟩) (.inl rfl) (.int .i64 me)).setCell (p := ⟨g6, 1, none⟩) (.inl rfl) (.slice (some ⟨g, 0, none⟩) l.length cap)) (fun k hk e => by subst e; rcases hk with ⟨⟨_, h⟩, _⟩ | h <;> omega)) (fun k hk => by
    rcases hk with ⟨h, _⟩ | h
    · exact .inl h
    · exact .inr (by omega))
  exact ⟨_, _, rfl, hR, hbb⟩
set_option maxHeartbeats 8000000 in
set_option maxRecDepth 100000 in
theorem links_Hear_bad {A : Option Addr} {n c : Nat} {me to_ : Int} {l : List S64} {w : World} (hn : n = l.length) (hC : Kd.C k64 w A l.length l) (hc : l.length ≤ c) (h : ¬(0 ≤ to_ ∧ to_ < l.length ∧ to_ ≠ me)) :
    Calls Try.prog 23 #[.agg #[.int .i64 me, .slice A n c], .int .i64 to_] w fun x w' => x = .returned (.tuple #[.agg #[.int .i64 me, .slice A l.length c], .int .i64 1]) ∧ Below w.heap.size w w' := by
  have B0 := Aside0.mk (Below.refl w.heap.size w)
  subst hn
  have HC := Aside0.mk hC; have HO := Aside0.mk (other_no h)
  clear hC h
  go_enter Try.func23, Try.ntmps23
  go_wp2_with (first | ((with_reducible refine gate_dst (N := 2) rfl ?_); refine box_event ?hg (N := 2) ?hd (cs := #[.int .i64 me, .slice A l.length c]) (t := 55) ?hr ?_; (case hd => rfl); (case hg => rfl); (case hr => first | (go_simp; done) | (go_simp; rfl)); intro g3 hg w1 hbox hb; have B1 := Aside0.mk (below_step B0.out hb); have P1 := Aside0.mk hbox; have G3 := Aside0.mk (show w.heap.size ≤ g3 from by rw [hg]; exact Nat.le_refl _); clear hb hg hbox) | ((with_reducible refine gate_dst (N := 4) rfl ?_); refine box_event ?hg (N := 4) ?hd (cs := #[.int .i64 0, .slice none 0 0]) (t := 55) ?hr ?_; (case hd => rfl); (case hg => rfl); (case hr => first | (go_simp; done) | (go_simp; rfl)); intro g6 hg w3 hbox hb; have B3 := Aside0.mk (below_step B1.out hb); have P3 := Aside0.mk (blk_below P1.out hb); have Q3 := Aside0.mk hbox; have G6 := Aside0.mk (show w.heap.size ≤ g6 ∧ g3 < g6 from ⟨by rw [hg]; exact B1.out.size, by rw [hg]; exact blk_lt P1.out⟩); clear P1; have xc0 : w3.cell? ⟨g3, 0, none⟩ = some (.int .i64 me) := (blk_cell P3.out 0).trans rfl; have xf0 := blk_frozen P3.out 0; have xc1 : w3.cell? ⟨g3, 1, none⟩ = some (.slice A l.length c) := (blk_cell P3.out 1).trans rfl; have xf1 := blk_frozen P3.out 1; clear hb hg hbox))
  refine (link_Links_other.calls me A c l to_ _ w3 (Kd.C_below HC.out B3.out) hc HO.out).mono ?_; rintro x w4 ⟨rfl, hb⟩; have B4 := Aside0.mk (below_step B3.out hb); have P4 := Aside0.mk (blk_below P3.out hb); have Q4 := Aside0.mk (blk_below Q3.out hb); clear hb P3 Q3 xc0 xf0 xc1 xf1
  have xc0 : w4.cell? ⟨g3, 0, none⟩ = some (.int .i64 me) := (blk_cell P4.out 0).trans rfl; have xf0 := blk_frozen P4.out 0; have xc1 : w4.cell? ⟨g3, 1, none⟩ = some (.slice A l.length c) := (blk_cell P4.out 1).trans rfl; have xf1 := blk_frozen P4.out 1; have yc0 : w4.cell? ⟨g6, 0, none⟩ = some (.int .i64 0) := (blk_cell Q4.out 0).trans rfl; have yf0 := blk_frozen Q4.out 0; have yc1 : w4.cell? ⟨g6, 1, none⟩ = some (.slice none 0 0) := (blk_cell Q4.out 1).trans rfl; have yf1 := blk_frozen Q4.out 1
  go_wp2_with fail
  refine bodyPost_ret (results_ct rfl _ _ g6 55 #[.int .i64 me, .slice A l.length c] (0, 0) _ rfl (blk_put (blk_put Q4.out 0 (.int .i64 me) (cs' := #[.int .i64 me, .slice none 0 0]) rfl) 1 (.slice A l.length c) (cs' := #[.int .i64 me, .slice A l.length c]) rfl) Try.underlying55 rfl (by kernel_rfl)) rfl ?_
  exact ⟨rfl, (below_setB (below_setB B4.out (p := ⟨g6, 0, none⟩) G6.out.1 (.int .i64 me)) (p := ⟨g6, 1, none⟩) G6.out.1 (.slice A l.length c))⟩
set_option maxHeartbeats 8000000 in
set_option maxRecDepth 100000 in
theorem links_Hear {t N : Nat} {ok : Nat → Prop} {A : Option Addr} {n c : Nat} {me : Int} {l : List S64} {w : World} (hn : n = l.length) (hN : N ≤ w.heap.size) (hR : Kd.R k64 64 w N ok (.slice A l.length c) l) (hf : FitL l) (ht : t < l.length) (hne : (t : Int) ≠ me) :
    Calls Try.prog 23 #[.agg #[.int .i64 me, .slice A n c], .int .i64 (t : Int)] w fun x w' => ∃ A' c', x = .returned (.tuple #[.agg #[.int .i64 me, .slice A' l.length c'], .int .i64 0]) ∧ Kd.R k64 64 w' N (OKN ok w) (.slice A' l.length c') (hearL l t) ∧ Below w.heap.size w w' := by
  have B0 := Aside0.mk (Below.refl w.heap.size w)
  subst hn
  have hC := (Kd.R_reads' hR).2.2; have hc := (Kd.R_reads' hR).2.1
  have hR2 := Kd.R_mono (ok' := fun k => ok k ∧ k < w.heap.size) (Kd.R_bound hR) (fun k hk => ⟨hk.1, hk.2.2.1⟩)
  have HR := Aside0.mk hR2; have HN := Aside0.mk hN; have HC := Aside0.mk hC; have HO := Aside0.mk (other_yes ht hne); have HF := Aside0.mk hf; have HT := Aside0.mk ht
  clear hC hR hR2 hN hf ht hne
  go_enter Try.func23, Try.ntmps23
  go_wp2_with (first | ((with_reducible refine gate_dst (N := 2) rfl ?_); refine box_event ?hg (N := 2) ?hd (cs := #[.int .i64 me, .slice A l.length c]) (t := 55) ?hr ?_; (case hd => rfl); (case hg => rfl); (case hr => first | (go_simp; done) | (go_simp; rfl)); intro g3 hg w1 hbox hb; have B1 := Aside0.mk (below_step B0.out hb); have P1 := Aside0.mk hbox; have G3 := Aside0.mk (show w.heap.size ≤ g3 from by rw [hg]; exact Nat.le_refl _); clear hb hg hbox) | ((with_reducible refine gate_dst (N := 4) rfl ?_); refine box_event ?hg (N := 4) ?hd (cs := #[.int .i64 0, .slice none 0 0]) (t := 55) ?hr ?_; (case hd => rfl); (case hg => rfl); (case hr => first | (go_simp; done) | (go_simp; rfl)); intro g6 hg w3 hbox hb; have B3 := Aside0.mk (below_step B1.out hb); have P3 := Aside0.mk (blk_below P1.out hb); have Q3 := Aside0.mk hbox; have G6 := Aside0.mk (show w.heap.size ≤ g6 ∧ g3 < g6 from ⟨by rw [hg]; exact B1.out.size, by rw [hg]; exact blk_lt P1.out⟩); clear P1; have xc0 : w3.cell? ⟨g3, 0, none⟩ = some (.int .i64 me) := (blk_cell P3.out 0).trans rfl; have xf0 := blk_frozen P3.out 0; have xc1 : w3.cell? ⟨g3, 1, none⟩ = some (.slice A l.length c) := (blk_cell P3.out 1).trans rfl; have xf1 := blk_frozen P3.out 1; clear hb hg hbox))
  refine (link_Links_other.calls me A c l t _ w3 (Kd.C_below HC.out B3.out) hc HO.out).mono ?_; rintro x w4 ⟨rfl, hb⟩; have B4 := Aside0.mk (below_step B3.out hb); have P4 := Aside0.mk (blk_below P3.out hb); have Q4 := Aside0.mk (blk_below Q3.out hb); clear hb P3 Q3 xc0 xf0 xc1 xf1
  have xc0 : w4.cell? ⟨g3, 0, none⟩ = some (.int .i64 me) := (blk_cell P4.out 0).trans rfl; have xf0 := blk_frozen P4.out 0; have xc1 : w4.cell? ⟨g3, 1, none⟩ = some (.slice A l.length c) := (blk_cell P4.out 1).trans rfl; have xf1 := blk_frozen P4.out 1
  go_wp2_with fail
  refine (links_Clone (ok := fun k => ok k ∧ k < w.heap.size) (t := t) (me := me) rfl (Nat.le_trans HN.out B4.out.size) (Kd.R_below HR.out B4.out) HT.out (by have := HF.out.1; omega) (fun x hx => by have := (HF.out.2 x hx).1; omega)).mono ?_
  rintro x w5 ⟨g, cap, vt, rfl, hg, hvt, hO, hTt, hb⟩
  have B5 := Aside0.mk (below_step B4.out hb); have Q5 := Aside0.mk (blk_below Q4.out hb); have O5 := Aside0.mk hO; have T5 := Aside0.mk hTt
  have G := Aside0.mk hg; have VT := Aside0.mk hvt; have Q4_ := Aside0.mk Q4.out
  have hi0 : (0 : Int) ≤ (t : Int) := by omega
  have hi1 : (t : Int) < (l.length : Int) := by have := HT.out; omega
  have q1 := eq_true hi0; have q2 := eq_true hi1; have q3 : decide ((0 : Int) ≤ (t : Int)) = true := decide_eq_true hi0
  have b1 : wrap64 ((rd_T64 l (t : Int)).f1 + 1) = (rd_T64 l (t : Int)).f1 + 1 := by have := HF.out.2 _ (rd_mem64 HT.out); unfold wrap64; omega
  have C5 := Aside0.mk hb
  clear hb hg hvt hO hTt P4 Q4 hi0 hi1 xc0 xf0 xc1 xf1
  go_wp2_with (first | ((with_reducible refine gate_dst (N := 6) rfl ?_); refine box_event ?hg (N := 6) ?hd (cs := #[.int .i64 0, .slice none 0 0]) (t := 55) ?hr ?_; (case hd => rfl); (case hg => rfl); (case hr => first | (go_simp; done) | (go_simp; rfl)); intro g8 hg w6m hbox hb; have ZB := Aside0.mk hb; have ZX := Aside0.mk hbox; have X6g := Aside0.mk (show w5.heap.size ≤ g8 from by rw [hg]; exact Nat.le_refl _); have x_zc0 : w6m.cell? ⟨g8, 0, none⟩ = some (.int .i64 0) := (blk_cell ZX.out 0).trans rfl; have x_zf0 := blk_frozen ZX.out 0; have x_zc1 : w6m.cell? ⟨g8, 1, none⟩ = some (.slice none 0 0) := (blk_cell ZX.out 1).trans rfl; have x_zf1 := blk_frozen ZX.out 1; clear hb hg hbox) | ((with_reducible refine gate_dst (N := 14) rfl ?_); have NB6 := Aside0.mk (below_setB (below_setB ZB.out (p := ⟨g8, 0, none⟩) X6g.out (.int .i64 me)) (p := ⟨g8, 1, none⟩) X6g.out (.slice (some ⟨g, 0, none⟩) l.length cap)); have X6 := Aside0.mk (blk_put (blk_put ZX.out 0 (.int .i64 me) (cs' := #[.int .i64 me, .slice none 0 0]) rfl) 1 (.slice (some ⟨g, 0, none⟩) l.length cap) (cs' := #[.int .i64 me, .slice (some ⟨g, 0, none⟩) l.length cap]) rfl); clear ZB ZX x_zc0 x_zf0 x_zc1 x_zf1; generalize ((w6m.setCell ⟨g8, 0, none⟩ (.int .i64 me)).setCell ⟨g8, 1, none⟩ (.slice (some ⟨g, 0, none⟩) l.length cap)) = w6 at NB6 X6 ⊢; have B6 := Aside0.mk (below_step B5.out NB6.out); have Q6 := Aside0.mk (blk_below Q5.out NB6.out); have O6 := Aside0.mk (Kd.R_below O5.out NB6.out); have T6 := Aside0.mk (Kd.R_below T5.out NB6.out); have HG := Aside0.mk (show g < w5.heap.size from Kd.R_lt O5.out g rfl); have c9 := (cloned_at O6.out HT.out).2.1; obtain ⟨cur, hcur⟩ := Kd.R_typed O6.out g rfl; have yf := blk_frozen hcur (t * 2 + 1); clear hcur B5 Q5 O5 T5; have x_c0 : w6.cell? ⟨g8, 0, none⟩ = some (.int .i64 me) := (blk_cell X6.out 0).trans rfl; have x_f0 := blk_frozen X6.out 0; have x_c1 : w6.cell? ⟨g8, 1, none⟩ = some (.slice (some ⟨g, 0, none⟩) l.length cap) := (blk_cell X6.out 1).trans rfl; have x_f1 := blk_frozen X6.out 1) | ((with_reducible refine gate_dst (N := 23) rfl ?_); have R10 := Aside0.mk (show Kd.R k64 64 (w6.setCell ⟨g, t * 2 + 1, none⟩ (.int .i64 ((rd_T64 l (t : Int)).f1 + 1))) N (OKN (fun k => ok k ∧ k < w.heap.size) w4) (.slice (some ⟨g, 0, none⟩) l.length cap) (hearL l t) from seg_set (j := 1) (u := .int .i64 ((rd_T64 l (t : Int)).f1 + 1)) (v := vt) (x := ⟨(rd_T64 l (t : Int)).f0, (rd_T64 l (t : Int)).f1 + 1⟩) (Kd.R_mono O6.out (fun _ hk => hk.1)) HT.out (by decide) T6.out rfl); have B10 := Aside0.mk (below_setB B6.out (p := ⟨g, t * 2 + 1, none⟩) (show w.heap.size ≤ g by have := G.out; have := B4.out.size; omega) (.int .i64 ((rd_T64 l (t : Int)).f1 + 1))); have X10 := Aside0.mk (blk_far X6.out (p := ⟨g, t * 2 + 1, none⟩) (show g8 ≠ g by have := X6g.out; have := HG.out; omega) (.int .i64 ((rd_T64 l (t : Int)).f1 + 1))); have Q10 := Aside0.mk (blk_far Q6.out (p := ⟨g, t * 2 + 1, none⟩) (show g6 ≠ g by have := blk_lt Q4_.out; have := G.out; omega) (.int .i64 ((rd_T64 l (t : Int)).f1 + 1))); clear O6 T6 B6 Q6 X6 NB6 c9 yf x_c0 x_f0 x_c1 x_f1; generalize (w6.setCell ⟨g, t * 2 + 1, none⟩ (.int .i64 ((rd_T64 l (t : Int)).f1 + 1))) = w10 at B10 X10 Q10 R10 ⊢; have xc0 : w10.cell? ⟨g8, 0, none⟩ = some (.int .i64 me) := (blk_cell X10.out 0).trans rfl; have xf0 := blk_frozen X10.out 0; have xc1 : w10.cell? ⟨g8, 1, none⟩ = some (.slice (some ⟨g, 0, none⟩) l.length cap) := (blk_cell X10.out 1).trans rfl; have xf1 := blk_frozen X10.out 1; have yc0 : w10.cell? ⟨g6, 0, none⟩ = some (.int .i64 0) := (blk_cell Q10.out 0).trans rfl; have yf0 := blk_frozen Q10.out 0; have yc1 : w10.cell? ⟨g6, 1, none⟩ = some (.slice none 0 0) := (blk_cell Q10.out 1).trans rfl; have yf1 := blk_frozen Q10.out 1))
  refine bodyPost_ret (results_ct rfl _ _ g6 55 #[.int .i64 me, .slice (some ⟨g, 0, none⟩) l.length cap] (0, 0) _ rfl (blk_put (blk_put Q10.out 0 (.int .i64 me) (cs' := #[.int .i64 me, .slice none 0 0]) rfl) 1 (.slice (some ⟨g, 0, none⟩) l.length cap) (cs' := #[.int .i64 me, .slice (some ⟨g, 0, none⟩) l.length cap]) rfl) Try.underlying55 rfl (by kernel_rfl)) rfl ?_
  have hbb := (below_setB (below_setB B10.out (p := ⟨g6, 0, none⟩) G6.out.1 (.int .i64 me)) (p := ⟨g6, 1, none⟩) G6.out.1 (.slice (some ⟨g, 0, none⟩) l.length cap))
  have hl6 := blk_lt Q4_.out
  have hl7 := G6.out.1
  have hl8 := B4.out.size
  have hR := Kd.R_mono (ok' := OKN ok w) (Kd.R_kept R10.out (((Kept.refl w10 (fun k => k = g6)).setCell (p := ⟨g6, 0, none⟩) (.inl rfl) (.int .i64 me)).setCell (p := ⟨g6, 1, none⟩) (.inl rfl) (.slice (some ⟨g, 0, none⟩) l.length cap)) (fun k hk e => by subst e; rcases hk with ⟨⟨_, h⟩, _⟩ | h <;> omega)) (fun k hk => by
    rcases hk with ⟨h, _⟩ | h
    · exact .inl h
    · exact .inr (by omega))
  exact ⟨_, _, rfl, hR, hbb⟩
end Go.Proofs.Ythgdojaildccaaa.M
