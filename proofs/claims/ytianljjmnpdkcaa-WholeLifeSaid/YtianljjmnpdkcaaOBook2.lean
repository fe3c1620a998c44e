/-
  A book: Put of an item that is there; Put in one contract.
-/
import Derived.Test.YtianljjmnpdkcaaOBook
namespace Go.Proofs.Ytianljjmnpdkcaa.M
open Go.RowKit Go.Proofs.YtianljjmnpdkcaaW.PrintWords Go.Proofs.YtianljjmnpdkcaaW.PrintLast Go.Proofs.YtianljjmnpdkcaaW.PrintMore
set_option linter.unusedVariables false
set_option linter.unusedSimpArgs false
attribute [local go_sem high] neqI
theorem itG {l : List S33} {w : World} {g n c N k : Nat} {ok : Nat → Prop} (h : Kd.R k33 33 w N ok (.slice (some ⟨g, 0, none⟩) n c) l) (hk : k < l.length) : w.cell? ⟨g, k * 8, none⟩ = some (.int .i64 (l.getD k z33).f0.f0) ∧ w.cell? ⟨g, k * 8 + 1, none⟩ = some (.int .i64 (l.getD k z33).f0.f1) ∧ w.cell? ⟨g, k * 8 + 2, none⟩ = some (.int .i64 (l.getD k z33).f1) ∧ w.cell? ⟨g, k * 8 + 3, none⟩ = some (.int .i64 (l.getD k z33).f2) ∧ w.cell? ⟨g, k * 8 + 4, none⟩ = some (.int .i64 (l.getD k z33).f3) ∧ w.cell? ⟨g, k * 8 + 5, none⟩ = some (.int .i64 (l.getD k z33).f4) ∧ w.cell? ⟨g, k * 8 + 6, none⟩ = some (.int .i64 (l.getD k z33).f5) ∧ w.cell? ⟨g, k * 8 + 7, none⟩ = some (.int .i64 (l.getD k z33).f6) := by
  obtain ⟨ad, e, h0, h1, h2, h3, h4, h5, h6, h7⟩ := itC (Kd.R_reads' h).2.2 hk
  injection e with e
  subst e
  simp only [add_plain] at h0 h1 h2 h3 h4 h5 h6 h7
  exact ⟨h0, h1, h2, h3, h4, h5, h6, h7⟩
theorem thereI_lt {l : List S33} {t : S31} (h : thereI l t = true) : atI l t < l.length := by
  unfold thereI at h
  rw [Bool.and_eq_true] at h
  exact of_decide_eq_true h.1
set_option maxHeartbeats 8000000 in
set_option maxRecDepth 100000 in
theorem put_old_a {me : Int} {A AO : Option Addr} {n c no co : Nat} {l : List S33} {x : S33} {w : World} (hn : n = l.length) (hC : Kd.C k33 w A l.length l) (hs : SortI l) (hl : n ≤ 1023) (hch : ChkOK x) (hme : x.f0.f0 = me) (hth : thereI l x.f0 = true) :
    Calls Try.prog 7 #[.agg #[.int .i64 me, .slice A n c, .slice AO no co], itV x] w fun r w' => ∃ A' n' c', r = .returned (.tuple #[.agg #[.int .i64 me, .slice A' n' c', .slice AO no co], .int .i64 0]) ∧ n' = (putI l x).length ∧ Kd.R k33 33 w' w.heap.size (fun _ => True) (.slice A' n' c') (putI l x) ∧ Below w.heap.size w w' := by
  have hlt := thereI_lt hth
  have HC := Aside0.mk hC
  have BSF := Aside0.mk (fun (w' : World) (hb' : Below w.heap.size w w') => bsfI_calls (c := c) (t := x.f0) (w := w') hn (Kd.C_below hC hb') (by omega) hs)
  obtain ⟨kc, hkc⟩ := hch
  have HCH := Aside0.mk hkc
  have HAT := Aside0.mk (show atI l x.f0 ≤ n by rw [hn]; exact atI_le l x.f0)
  have m1 : (x.f0.f0 != me) = false := by simp [hme]
  rw [hth] at BSF
  obtain ⟨k, hk⟩ : ∃ k, atI l x.f0 = k := ⟨_, rfl⟩
  rw [hk] at BSF HAT
  have HK := Aside0.mk hk; have HL := Aside0.mk hl; have HNN := Aside0.mk hn; have HTH := Aside0.mk hth
  have f1 : decide ((n : Int) ≥ 1024) = false := decide_eq_false (by omega)
  have f2 : ((n : Int) ≥ 1024) = False := eq_false (by omega)
  have f3 : (1024 ≤ n) = False := eq_false (by omega)
  have f4 : decide (1024 ≤ n) = false := decide_eq_false (by omega)
  have hsz := hlt
  rw [hk, ← hn] at hlt
  have KN := Aside0.mk hlt
  obtain ⟨y, hy⟩ : ∃ y, y = l.getD k z33 := ⟨_, rfl⟩
  have HY := Aside0.mk hy
  have HP := Aside0.mk (show putI l x = l.set k x by unfold putI; rw [hth, if_pos rfl, hk])
  rw [HP.out]
  have ix1 : (0 : Int) ≤ (k : Int) := by omega
  have ix2 : (k : Int) < (n : Int) := by omega
  have ix3 := eq_true ix1; have ix4 := eq_true ix2
  have ix5 : decide ((k : Int) < (n : Int)) = true := decide_eq_true ix2
  have ix6 : decide (k < n) = true := decide_eq_true (by omega)
  have ix7 : (k < n) = True := eq_true (by omega)
  clear hn hC hs hl hkc hth hk HP hme hy hlt hsz
  go_enter Try.func7, Try.ntmps7
  go_wp2_with (first | ((with_reducible refine gate_dst (N := 2) rfl ?_); refine box_event ?hg (N := 2) ?hd (cs := #[.int .i64 me, .slice A n c, .slice AO no co]) (t := 26) ?hr ?_; (case hd => rfl); (case hg => rfl); (case hr => first | (go_simp; done) | (go_simp; rfl)); intro g2 hg w2 hbox hb; have B2 := Aside0.mk hb; have K2 := Aside0.mk hbox; have G2 := Aside0.mk (show w.heap.size ≤ g2 from by rw [hg]; exact Nat.le_refl _); clear hb hg hbox) | ((with_reducible refine gate_dst (N := 3) rfl ?_); refine box_event ?hg (N := 3) ?hd (cs := #[.int .i64 x.f0.f0, .int .i64 x.f0.f1, .int .i64 x.f1, .int .i64 x.f2, .int .i64 x.f3, .int .i64 x.f4, .int .i64 x.f5, .int .i64 x.f6]) (t := 33) ?hr ?_; (case hd => rfl); (case hg => rfl); (case hr => first | (go_simp; done) | (go_simp; rfl)); intro g3 hg w3 hbox hb; have B3 := Aside0.mk (below_step B2.out hb); have K2b := Aside0.mk (blk_below K2.out hb); have K3 := Aside0.mk hbox; clear hb hg hbox) | ((with_reducible refine gate_dst (N := 4) rfl ?_); refine box_event ?hg (N := 4) ?hd (cs := #[.int .i64 0, .slice none 0 0, .slice none 0 0]) (t := 26) ?hr ?_; (case hd => rfl); (case hg => rfl); (case hr => first | (go_simp; done) | (go_simp; rfl)); intro g4 hg w4 hbox hb; have B4 := Aside0.mk (below_step B3.out hb); have K2c := Aside0.mk (blk_below K2b.out hb); have K3c := Aside0.mk (blk_below K3.out hb); have K4 := Aside0.mk hbox; have G4 := Aside0.mk (show w.heap.size ≤ g4 from by rw [hg]; exact B3.out.size); have ic0 : w4.cell? ⟨g3, 0, none⟩ = some (.int .i64 x.f0.f0) := (blk_cell K3c.out 0).trans rfl; have if0 := blk_frozen K3c.out 0; have ic1 : w4.cell? ⟨g3, 1, none⟩ = some (.int .i64 x.f0.f1) := (blk_cell K3c.out 1).trans rfl; have if1 := blk_frozen K3c.out 1; have ic2 : w4.cell? ⟨g3, 2, none⟩ = some (.int .i64 x.f1) := (blk_cell K3c.out 2).trans rfl; have if2 := blk_frozen K3c.out 2; have ic3 : w4.cell? ⟨g3, 3, none⟩ = some (.int .i64 x.f2) := (blk_cell K3c.out 3).trans rfl; have if3 := blk_frozen K3c.out 3; have ic4 : w4.cell? ⟨g3, 4, none⟩ = some (.int .i64 x.f3) := (blk_cell K3c.out 4).trans rfl; have if4 := blk_frozen K3c.out 4; have ic5 : w4.cell? ⟨g3, 5, none⟩ = some (.int .i64 x.f4) := (blk_cell K3c.out 5).trans rfl; have if5 := blk_frozen K3c.out 5; have ic6 : w4.cell? ⟨g3, 6, none⟩ = some (.int .i64 x.f5) := (blk_cell K3c.out 6).trans rfl; have if6 := blk_frozen K3c.out 6; have ic7 : w4.cell? ⟨g3, 7, none⟩ = some (.int .i64 x.f6) := (blk_cell K3c.out 7).trans rfl; have if7 := blk_frozen K3c.out 7; clear hb hg hbox) | (go_at_call 6; refine (item_Check.calls kc _ _ _ _ _ _ _ _ 0 _ HCH.out).mono ?_; rintro r w5 ⟨rfl, hb⟩; have B5 := Aside0.mk (below_step B4.out hb); have K2d := Aside0.mk (blk_below K2c.out hb); have K3d := Aside0.mk (blk_below K3c.out hb); have K4d := Aside0.mk (blk_below K4.out hb); clear hb ic0 if0 ic1 if1 ic2 if2 ic3 if3 ic4 if4 ic5 if5 ic6 if6 ic7 if7; have ic0 : w5.cell? ⟨g3, 0, none⟩ = some (.int .i64 x.f0.f0) := (blk_cell K3d.out 0).trans rfl; have if0 := blk_frozen K3d.out 0; have ic1 : w5.cell? ⟨g3, 1, none⟩ = some (.int .i64 x.f0.f1) := (blk_cell K3d.out 1).trans rfl; have if1 := blk_frozen K3d.out 1; have ic2 : w5.cell? ⟨g3, 2, none⟩ = some (.int .i64 x.f1) := (blk_cell K3d.out 2).trans rfl; have if2 := blk_frozen K3d.out 2; have ic3 : w5.cell? ⟨g3, 3, none⟩ = some (.int .i64 x.f2) := (blk_cell K3d.out 3).trans rfl; have if3 := blk_frozen K3d.out 3; have ic4 : w5.cell? ⟨g3, 4, none⟩ = some (.int .i64 x.f3) := (blk_cell K3d.out 4).trans rfl; have if4 := blk_frozen K3d.out 4; have ic5 : w5.cell? ⟨g3, 5, none⟩ = some (.int .i64 x.f4) := (blk_cell K3d.out 5).trans rfl; have if5 := blk_frozen K3d.out 5; have ic6 : w5.cell? ⟨g3, 6, none⟩ = some (.int .i64 x.f5) := (blk_cell K3d.out 6).trans rfl; have if6 := blk_frozen K3d.out 6; have ic7 : w5.cell? ⟨g3, 7, none⟩ = some (.int .i64 x.f6) := (blk_cell K3d.out 7).trans rfl; have if7 := blk_frozen K3d.out 7; have qc0 : w5.cell? ⟨g2, 0, none⟩ = some (.int .i64 me) := (blk_cell K2d.out 0).trans rfl; have qf0 := blk_frozen K2d.out 0; have qc1 : w5.cell? ⟨g2, 1, none⟩ = some (.slice A n c) := (blk_cell K2d.out 1).trans rfl; have qf1 := blk_frozen K2d.out 1; have qc2 : w5.cell? ⟨g2, 2, none⟩ = some (.slice AO no co) := (blk_cell K2d.out 2).trans rfl; have qf2 := blk_frozen K2d.out 2) | (go_at_call 20; refine (BSF.out _ B5.out).mono ?_; rintro r w6 ⟨rfl, hb⟩; have B6 := Aside0.mk (below_step B5.out hb); have K2e := Aside0.mk (blk_below K2d.out hb); have K3e := Aside0.mk (blk_below K3d.out hb); have K4e := Aside0.mk (blk_below K4d.out hb); clear hb BSF ic0 if0 ic1 if1 ic2 if2 ic3 if3 ic4 if4 ic5 if5 ic6 if6 ic7 if7 qc0 qf0 qc1 qf1 qc2 qf2; have ic0 : w6.cell? ⟨g3, 0, none⟩ = some (.int .i64 x.f0.f0) := (blk_cell K3e.out 0).trans rfl; have if0 := blk_frozen K3e.out 0; have ic1 : w6.cell? ⟨g3, 1, none⟩ = some (.int .i64 x.f0.f1) := (blk_cell K3e.out 1).trans rfl; have if1 := blk_frozen K3e.out 1; have ic2 : w6.cell? ⟨g3, 2, none⟩ = some (.int .i64 x.f1) := (blk_cell K3e.out 2).trans rfl; have if2 := blk_frozen K3e.out 2; have ic3 : w6.cell? ⟨g3, 3, none⟩ = some (.int .i64 x.f2) := (blk_cell K3e.out 3).trans rfl; have if3 := blk_frozen K3e.out 3; have ic4 : w6.cell? ⟨g3, 4, none⟩ = some (.int .i64 x.f3) := (blk_cell K3e.out 4).trans rfl; have if4 := blk_frozen K3e.out 4; have ic5 : w6.cell? ⟨g3, 5, none⟩ = some (.int .i64 x.f4) := (blk_cell K3e.out 5).trans rfl; have if5 := blk_frozen K3e.out 5; have ic6 : w6.cell? ⟨g3, 6, none⟩ = some (.int .i64 x.f5) := (blk_cell K3e.out 6).trans rfl; have if6 := blk_frozen K3e.out 6; have ic7 : w6.cell? ⟨g3, 7, none⟩ = some (.int .i64 x.f6) := (blk_cell K3e.out 7).trans rfl; have if7 := blk_frozen K3e.out 7; have qc0 : w6.cell? ⟨g2, 0, none⟩ = some (.int .i64 me) := (blk_cell K2e.out 0).trans rfl; have qf0 := blk_frozen K2e.out 0; have qc1 : w6.cell? ⟨g2, 1, none⟩ = some (.slice A n c) := (blk_cell K2e.out 1).trans rfl; have qf1 := blk_frozen K2e.out 1; have qc2 : w6.cell? ⟨g2, 2, none⟩ = some (.slice AO no co) := (blk_cell K2e.out 2).trans rfl; have qf2 := blk_frozen K2e.out 2) | ((with_reducible refine gate_dst (N := 9) rfl ?_); refine box_event ?hg (N := 9) ?hd (cs := #[.int .i64 0, .slice none 0 0, .slice none 0 0]) (t := 26) ?hr ?_; (case hd => rfl); (case hg => rfl); (case hr => first | (go_simp; done) | (go_simp; rfl)); intro g9 hg w9m hbox hb; have ZB := Aside0.mk (below_step B6.out hb); have K2f := Aside0.mk (blk_below K2e.out hb); have K3f := Aside0.mk (blk_below K3e.out hb); have K4f := Aside0.mk (blk_below K4e.out hb); have ZX := Aside0.mk hbox; have G9 := Aside0.mk (show w.heap.size ≤ g9 ∧ w6.heap.size ≤ g9 from ⟨by rw [hg]; exact B6.out.size, by rw [hg]; exact Nat.le_refl _⟩); clear ic0 if0 ic1 if1 ic2 if2 ic3 if3 ic4 if4 ic5 if5 ic6 if6 ic7 if7 qc0 qf0 qc1 qf1 qc2 qf2; have zc0 : w9m.cell? ⟨g9, 0, none⟩ = some (.int .i64 0) := (blk_cell ZX.out 0).trans rfl; have zf0 := blk_frozen ZX.out 0; have zc1 : w9m.cell? ⟨g9, 1, none⟩ = some (.slice none 0 0) := (blk_cell ZX.out 1).trans rfl; have zf1 := blk_frozen ZX.out 1; have zc2 : w9m.cell? ⟨g9, 2, none⟩ = some (.slice none 0 0) := (blk_cell ZX.out 2).trans rfl; have zf2 := blk_frozen ZX.out 2; clear hb hg hbox) | ((with_reducible refine gate_dst (N := 49) rfl ?_); have B9 := Aside0.mk (below_setB (below_setB (below_setB ZB.out (p := ⟨g9, 0, none⟩) G9.out.1 (.int .i64 me)) (p := ⟨g9, 1, none⟩) G9.out.1 (.slice A n c)) (p := ⟨g9, 2, none⟩) G9.out.1 (.slice AO no co)); have K9 := Aside0.mk (blk_put (blk_put (blk_put ZX.out 0 (.int .i64 me) (cs' := #[.int .i64 me, .slice none 0 0, .slice none 0 0]) rfl) 1 (.slice A n c) (cs' := #[.int .i64 me, .slice A n c, .slice none 0 0]) rfl) 2 (.slice AO no co) (cs' := #[.int .i64 me, .slice A n c, .slice AO no co]) rfl); have K2g := Aside0.mk (((((((Kept.refl w9m (fun k => k = g9)).setCell (p := ⟨g9, 0, none⟩) (.inl rfl) (.int .i64 me)).setCell (p := ⟨g9, 1, none⟩) (.inl rfl) (.slice A n c)).setCell (p := ⟨g9, 2, none⟩) (.inl rfl) (.slice AO no co))).2 g2 (blk_lt K2f.out) (Nat.ne_of_lt (Nat.lt_of_lt_of_le (blk_lt K2e.out) G9.out.2))).trans K2f.out); have K3g := Aside0.mk (((((((Kept.refl w9m (fun k => k = g9)).setCell (p := ⟨g9, 0, none⟩) (.inl rfl) (.int .i64 me)).setCell (p := ⟨g9, 1, none⟩) (.inl rfl) (.slice A n c)).setCell (p := ⟨g9, 2, none⟩) (.inl rfl) (.slice AO no co))).2 g3 (blk_lt K3f.out) (Nat.ne_of_lt (Nat.lt_of_lt_of_le (blk_lt K3e.out) G9.out.2))).trans K3f.out); have K4g := Aside0.mk (((((((Kept.refl w9m (fun k => k = g9)).setCell (p := ⟨g9, 0, none⟩) (.inl rfl) (.int .i64 me)).setCell (p := ⟨g9, 1, none⟩) (.inl rfl) (.slice A n c)).setCell (p := ⟨g9, 2, none⟩) (.inl rfl) (.slice AO no co))).2 g4 (blk_lt K4f.out) (Nat.ne_of_lt (Nat.lt_of_lt_of_le (blk_lt K4e.out) G9.out.2))).trans K4f.out); clear ZB ZX K2f K3f K4f zc0 zf0 zc1 zf1 zc2 zf2; generalize (((w9m.setCell ⟨g9, 0, none⟩ (.int .i64 me)).setCell ⟨g9, 1, none⟩ (.slice A n c)).setCell ⟨g9, 2, none⟩ (.slice AO no co)) = w9 at B9 K9 K2g K3g K4g ⊢; have qc0 : w9.cell? ⟨g2, 0, none⟩ = some (.int .i64 me) := (blk_cell K2g.out 0).trans rfl; have qf0 := blk_frozen K2g.out 0; have qc1 : w9.cell? ⟨g2, 1, none⟩ = some (.slice A n c) := (blk_cell K2g.out 1).trans rfl; have qf1 := blk_frozen K2g.out 1; have qc2 : w9.cell? ⟨g2, 2, none⟩ = some (.slice AO no co) := (blk_cell K2g.out 2).trans rfl; have qf2 := blk_frozen K2g.out 2) | (go_at_call 22; refine (cloneI_calls (w := w9) HNN.out (Kd.C_below HC.out B9.out) (by have := HL.out; have := HNN.out; omega)).mono ?_; rintro r w10 ⟨v10, rfl, hO, hb⟩; obtain ⟨g10, c10, e10, hb10, -, -⟩ := Kd.R_form hO (by have := KN.out; have := HNN.out; omega); subst e10; have G10 := Aside0.mk hb10; clear hb10; rw [← HNN.out] at hO ⊢; have O10 := Aside0.mk (Kd.R_mono (ok' := (fun k => k ≠ g4 ∧ k ≠ g9)) (Kd.R_bound hO) (fun k hk => ⟨Nat.ne_of_gt (Nat.lt_of_lt_of_le (blk_lt K4g.out) hk.2.1), Nat.ne_of_gt (Nat.lt_of_lt_of_le (blk_lt K9.out) hk.2.1)⟩)); have B10 := Aside0.mk (below_step B9.out hb); have K9h := Aside0.mk (blk_below K9.out hb); have K3h := Aside0.mk (blk_below K3g.out hb); have K4h := Aside0.mk (blk_below K4g.out hb); have S10 := Aside0.mk hb.size; clear hb hO qc0 qf0 qc1 qf1 qc2 qf2; have rc0 : w10.cell? ⟨g9, 0, none⟩ = some (.int .i64 me) := (blk_cell K9h.out 0).trans rfl; have rf0 := blk_frozen K9h.out 0; have rc1 : w10.cell? ⟨g9, 1, none⟩ = some (.slice A n c) := (blk_cell K9h.out 1).trans rfl; have rf1 := blk_frozen K9h.out 1; have rc2 : w10.cell? ⟨g9, 2, none⟩ = some (.slice AO no co) := (blk_cell K9h.out 2).trans rfl; have rf2 := blk_frozen K9h.out 2) | ((with_reducible refine gate_dst (N := 54) rfl ?_); have B11 := Aside0.mk (below_setB B10.out (p := ⟨g9, 1, none⟩) G9.out.1 (.slice (some ⟨g10, 0, none⟩) n c10)); have K9i := Aside0.mk (blk_put K9h.out 1 (.slice (some ⟨g10, 0, none⟩) n c10) (cs' := #[.int .i64 me, .slice (some ⟨g10, 0, none⟩) n c10, .slice AO no co]) rfl); have K3i := Aside0.mk (blk_far K3h.out (p := ⟨g9, 1, none⟩) (Nat.ne_of_lt (Nat.lt_of_lt_of_le (blk_lt K3e.out) G9.out.2)) (.slice (some ⟨g10, 0, none⟩) n c10)); have K4i := Aside0.mk (blk_far K4h.out (p := ⟨g9, 1, none⟩) (Nat.ne_of_lt (Nat.lt_of_lt_of_le (blk_lt K4e.out) G9.out.2)) (.slice (some ⟨g10, 0, none⟩) n c10)); have O11 := Aside0.mk (Kd.R_far O10.out (p := ⟨g9, 1, none⟩) (fun k hk => hk.2) (.slice (some ⟨g10, 0, none⟩) n c10)); have S11 := Aside0.mk (show w9.heap.size ≤ (w10.setCell ⟨g9, 1, none⟩ (.slice (some ⟨g10, 0, none⟩) n c10)).heap.size by have := S10.out; simpa [World.setCell] using this); clear K9h K3h K4h B10 O10 S10 rc0 rf0 rc1 rf1 rc2 rf2; generalize (w10.setCell ⟨g9, 1, none⟩ (.slice (some ⟨g10, 0, none⟩) n c10)) = w11 at B11 K9i K3i K4i O11 S11 ⊢; have rc0 : w11.cell? ⟨g9, 0, none⟩ = some (.int .i64 me) := (blk_cell K9i.out 0).trans rfl; have rf0 := blk_frozen K9i.out 0; have rc1 : w11.cell? ⟨g9, 1, none⟩ = some (.slice (some ⟨g10, 0, none⟩) n c10) := (blk_cell K9i.out 1).trans rfl; have rf1 := blk_frozen K9i.out 1; have rc2 : w11.cell? ⟨g9, 2, none⟩ = some (.slice AO no co) := (blk_cell K9i.out 2).trans rfl; have rf2 := blk_frozen K9i.out 2; have ic0 : w11.cell? ⟨g3, 0, none⟩ = some (.int .i64 x.f0.f0) := (blk_cell K3i.out 0).trans rfl; have if0 := blk_frozen K3i.out 0; have ic1 : w11.cell? ⟨g3, 1, none⟩ = some (.int .i64 x.f0.f1) := (blk_cell K3i.out 1).trans rfl; have if1 := blk_frozen K3i.out 1; have ic2 : w11.cell? ⟨g3, 2, none⟩ = some (.int .i64 x.f1) := (blk_cell K3i.out 2).trans rfl; have if2 := blk_frozen K3i.out 2; have ic3 : w11.cell? ⟨g3, 3, none⟩ = some (.int .i64 x.f2) := (blk_cell K3i.out 3).trans rfl; have if3 := blk_frozen K3i.out 3; have ic4 : w11.cell? ⟨g3, 4, none⟩ = some (.int .i64 x.f3) := (blk_cell K3i.out 4).trans rfl; have if4 := blk_frozen K3i.out 4; have ic5 : w11.cell? ⟨g3, 5, none⟩ = some (.int .i64 x.f4) := (blk_cell K3i.out 5).trans rfl; have if5 := blk_frozen K3i.out 5; have ic6 : w11.cell? ⟨g3, 6, none⟩ = some (.int .i64 x.f5) := (blk_cell K3i.out 6).trans rfl; have if6 := blk_frozen K3i.out 6; have ic7 : w11.cell? ⟨g3, 7, none⟩ = some (.int .i64 x.f6) := (blk_cell K3i.out 7).trans rfl; have if7 := blk_frozen K3i.out 7))
  obtain ⟨e0, e1, e2, e3, e4, e5, e6, e7⟩ := itG O11.out (k := k) (by have := KN.out; have := HNN.out; omega)
  rw [← HY.out] at e0 e1 e2 e3 e4 e5 e6 e7
  obtain ⟨b, hb⟩ : ∃ b, eq8 y.f0.f0 y.f0.f1 y.f1 y.f2 y.f3 y.f4 y.f5 y.f6 x.f0.f0 x.f0.f1 x.f1 x.f2 x.f3 x.f4 x.f5 x.f6 = b := ⟨_, rfl⟩
  cases b
  rotate_left
  · have HXY := Aside0.mk (eqI_iff.1 hb)
    refine start_ (n := 8) (S := fun w' => w'.cell? ⟨g9, 1, none⟩ = some (.slice (some ⟨g10, 0, none⟩) n c10) ∧ w'.cell? ⟨g10, k * 8, none⟩ = some (.int .i64 y.f0.f0) ∧ w'.cell? ⟨g10, k * 8 + 1, none⟩ = some (.int .i64 y.f0.f1) ∧ w'.cell? ⟨g10, k * 8 + 2, none⟩ = some (.int .i64 y.f1) ∧ w'.cell? ⟨g10, k * 8 + 3, none⟩ = some (.int .i64 y.f2) ∧ w'.cell? ⟨g10, k * 8 + 4, none⟩ = some (.int .i64 y.f3) ∧ w'.cell? ⟨g10, k * 8 + 5, none⟩ = some (.int .i64 y.f4) ∧ w'.cell? ⟨g10, k * 8 + 6, none⟩ = some (.int .i64 y.f5) ∧ w'.cell? ⟨g10, k * 8 + 7, none⟩ = some (.int .i64 y.f6) ∧ w'.cell? ⟨g3, 0, none⟩ = some (.int .i64 x.f0.f0) ∧ w'.cell? ⟨g3, 1, none⟩ = some (.int .i64 x.f0.f1) ∧ w'.cell? ⟨g3, 2, none⟩ = some (.int .i64 x.f1) ∧ w'.cell? ⟨g3, 3, none⟩ = some (.int .i64 x.f2) ∧ w'.cell? ⟨g3, 4, none⟩ = some (.int .i64 x.f3) ∧ w'.cell? ⟨g3, 5, none⟩ = some (.int .i64 x.f4) ∧ w'.cell? ⟨g3, 6, none⟩ = some (.int .i64 x.f5) ∧ w'.cell? ⟨g3, 7, none⟩ = some (.int .i64 x.f6)) (ds := []) #[false, false, false, false, false, false, false, false] (by kernel_rfl) rfl rfl ⟨rc1, e0, e1, e2, e3, e4, e5, e6, e7, ic0, ic1, ic2, ic3, ic4, ic5, ic6, ic7⟩ (fun hHeld => ?_)
    refine pure_ (i := 0) (N := some 63) (v := ?_) (a' := ?_) #[true, false, false, false, false, false, false, false] rfl rfl (by kernel_rfl) (fun _ _ _ h => h) (Or.inl ⟨by rfl, ?_⟩) ?_ ?_
    rotate_left
    · intro w'
      go_simp
      with_reducible rfl
    rotate_left
    · simp only [Act.put, List.setIfInBounds_toArray, List.set_cons_zero, List.set_cons_succ, i64_w, i32_w]
      rfl
    refine pure_ (i := 2) (N := some 65) (v := ?_) (a' := ?_) #[true, false, true, false, false, false, false, false] rfl rfl (by kernel_rfl) (fun _ _ _ h => h) (Or.inl ⟨by rfl, ?_⟩) ?_ ?_
    rotate_left
    · intro w'
      go_simp
      with_reducible rfl
    rotate_left
    · simp only [Act.put, List.setIfInBounds_toArray, List.set_cons_zero, List.set_cons_succ, i64_w, i32_w]
      rfl
    refine take_ (i := 1) (N := some 64) (v := ?_) (a' := ?_) #[true, true, true, false, false, false, false, false] rfl rfl (by kernel_rfl) (fun _ _ _ h => h) (Or.inl ⟨by rfl, ?_⟩) hHeld ?_ ?_
    rotate_left
    · rintro w' ⟨s0, s1, s2, s3, s4, s5, s6, s7, s8, s9, s10, s11, s12, s13, s14, s15, s16⟩
      go_simp
      with_reducible rfl
    rotate_left
    · simp only [Act.put, List.setIfInBounds_toArray, List.set_cons_zero, List.set_cons_succ, i64_w, i32_w]
      rfl
    refine pure_ (i := 3) (N := some 66) (v := ?_) (a' := ?_) #[true, true, true, true, false, false, false, false] rfl rfl (by kernel_rfl) (fun _ _ _ h => h) (Or.inl ⟨by rfl, ?_⟩) ?_ ?_
    rotate_left
    · intro w'
      go_simp
      with_reducible rfl
    rotate_left
    · simp only [Act.put, List.setIfInBounds_toArray, List.set_cons_zero, List.set_cons_succ, i64_w, i32_w]
      rfl
    refine take_ (i := 4) (N := some 67) (v := ?_) (a' := ?_) #[true, true, true, true, true, false, false, false] rfl rfl (by kernel_rfl) (fun _ _ _ h => h) (Or.inl ⟨by rfl, ?_⟩) hHeld ?_ ?_
    rotate_left
    · rintro w' ⟨s0, s1, s2, s3, s4, s5, s6, s7, s8, s9, s10, s11, s12, s13, s14, s15, s16⟩
      go_simp
      with_reducible rfl
    rotate_left
    · simp only [Act.put, List.setIfInBounds_toArray, List.set_cons_zero, List.set_cons_succ, i64_w, i32_w]
      rfl
    refine take_ (i := 5) (N := some 68) (v := ?_) (a' := ?_) #[true, true, true, true, true, true, false, false] rfl rfl (by kernel_rfl) (fun _ _ _ h => h) (Or.inl ⟨by rfl, ?_⟩) hHeld ?_ ?_
    rotate_left
    · rintro w' ⟨s0, s1, s2, s3, s4, s5, s6, s7, s8, s9, s10, s11, s12, s13, s14, s15, s16⟩
      go_simp
      with_reducible rfl
    rotate_left
    · simp only [Act.put, List.setIfInBounds_toArray, List.set_cons_zero, List.set_cons_succ, i64_w, i32_w]
      rfl
    refine pure_ (i := 6) (N := some 69) (v := ?_) (a' := ?_) #[true, true, true, true, true, true, true, false] rfl rfl (by kernel_rfl) (fun _ _ _ h => h) (Or.inl ⟨by rfl, ?_⟩) ?_ ?_
    rotate_left
    · intro w'
      go_simp
      with_reducible rfl
    rotate_left
    · simp only [Act.put, List.setIfInBounds_toArray, List.set_cons_zero, List.set_cons_succ, i64_w, i32_w]
      rfl
    refine pure_ (i := 7) (N := some 62) (v := ?_) (a' := ?_) #[true, true, true, true, true, true, true, true] rfl rfl (by kernel_rfl) (fun _ _ _ h => h) (Or.inl ⟨by rfl, ?_⟩) ?_ ?_
    rotate_left
    · intro w'
      go_simp
      with_reducible rfl
    rotate_left
    · simp only [Act.put, List.setIfInBounds_toArray, List.set_cons_zero, List.set_cons_succ, i64_w, i32_w]
      rfl
    refine done_ (by kernel_rfl) ?_
    have B14 := Aside0.mk (below_drew B11.out); have K9k := Aside0.mk (blk_drew K9i.out); have K4k := Aside0.mk (blk_drew K4i.out); have K3k := Aside0.mk (blk_drew K3i.out); have O14 := Aside0.mk (Kd.R_drew O11.out)
    clear hb e0 e1 e2 e3 e4 e5 e6 e7 rc0 rf0 rc1 rf1 rc2 rf2 ic0 if0 ic1 if1 ic2 if2 ic3 if3 ic4 if4 ic5 if5 ic6 if6 ic7 if7
    generalize w11.drew = w14 at B14 K9k K4k K3k O14 ⊢
    have rc0 : w14.cell? ⟨g9, 0, none⟩ = some (.int .i64 me) := (blk_cell K9k.out 0).trans rfl; have rf0 := blk_frozen K9k.out 0; have rc1 : w14.cell? ⟨g9, 1, none⟩ = some (.slice (some ⟨g10, 0, none⟩) n c10) := (blk_cell K9k.out 1).trans rfl; have rf1 := blk_frozen K9k.out 1; have rc2 : w14.cell? ⟨g9, 2, none⟩ = some (.slice AO no co) := (blk_cell K9k.out 2).trans rfl; have rf2 := blk_frozen K9k.out 2
    have sc0 : w14.cell? ⟨g4, 0, none⟩ = some (.int .i64 0) := (blk_cell K4k.out 0).trans rfl; have sf0 := blk_frozen K4k.out 0; have sc1 : w14.cell? ⟨g4, 1, none⟩ = some (.slice none 0 0) := (blk_cell K4k.out 1).trans rfl; have sf1 := blk_frozen K4k.out 1; have sc2 : w14.cell? ⟨g4, 2, none⟩ = some (.slice none 0 0) := (blk_cell K4k.out 2).trans rfl; have sf2 := blk_frozen K4k.out 2
    have ic0 : w14.cell? ⟨g3, 0, none⟩ = some (.int .i64 x.f0.f0) := (blk_cell K3k.out 0).trans rfl; have if0 := blk_frozen K3k.out 0; have ic1 : w14.cell? ⟨g3, 1, none⟩ = some (.int .i64 x.f0.f1) := (blk_cell K3k.out 1).trans rfl; have if1 := blk_frozen K3k.out 1; have ic2 : w14.cell? ⟨g3, 2, none⟩ = some (.int .i64 x.f1) := (blk_cell K3k.out 2).trans rfl; have if2 := blk_frozen K3k.out 2; have ic3 : w14.cell? ⟨g3, 3, none⟩ = some (.int .i64 x.f2) := (blk_cell K3k.out 3).trans rfl; have if3 := blk_frozen K3k.out 3; have ic4 : w14.cell? ⟨g3, 4, none⟩ = some (.int .i64 x.f3) := (blk_cell K3k.out 4).trans rfl; have if4 := blk_frozen K3k.out 4; have ic5 : w14.cell? ⟨g3, 5, none⟩ = some (.int .i64 x.f4) := (blk_cell K3k.out 5).trans rfl; have if5 := blk_frozen K3k.out 5; have ic6 : w14.cell? ⟨g3, 6, none⟩ = some (.int .i64 x.f5) := (blk_cell K3k.out 6).trans rfl; have if6 := blk_frozen K3k.out 6; have ic7 : w14.cell? ⟨g3, 7, none⟩ = some (.int .i64 x.f6) := (blk_cell K3k.out 7).trans rfl; have if7 := blk_frozen K3k.out 7
    go_wp2_with fail
    have hset : l.set k x = l := by
      rw [← HXY.out, HY.out, List.getD_eq_getElem?_getD, List.getElem?_eq_getElem (by have := KN.out; have := HNN.out; omega)]
      exact List.set_getElem_self _
    rw [hset]
    refine bodyPost_ret (results_ct rfl _ _ g4 26 #[.int .i64 me, .slice (some ⟨g10, 0, none⟩) n c10, .slice AO no co] (0, 0) _ rfl (blk_put (blk_put (blk_put K4k.out 0 (.int .i64 me) (cs' := #[.int .i64 me, .slice none 0 0, .slice none 0 0]) rfl) 1 (.slice (some ⟨g10, 0, none⟩) n c10) (cs' := #[.int .i64 me, .slice (some ⟨g10, 0, none⟩) n c10, .slice none 0 0]) rfl) 2 (.slice AO no co) (cs' := #[.int .i64 me, .slice (some ⟨g10, 0, none⟩) n c10, .slice AO no co]) rfl) Try.underlying26 rfl (by kernel_rfl)) rfl ?_
    exact ⟨_, _, _, rfl, HNN.out, Kd.R_lower (Kd.R_mono (Kd.R_kept O14.out ((((Kept.refl w14 (fun k => k = g4)).setCell (p := ⟨g4, 0, none⟩) (.inl rfl) (.int .i64 me)).setCell (p := ⟨g4, 1, none⟩) (.inl rfl) (.slice (some ⟨g10, 0, none⟩) n c10)).setCell (p := ⟨g4, 2, none⟩) (.inl rfl) (.slice AO no co)) (fun k hk e => hk.1 e)) (fun _ _ => trivial)) B9.out.size, (below_setB (below_setB (below_setB B14.out (p := ⟨g4, 0, none⟩) G4.out (.int .i64 me)) (p := ⟨g4, 1, none⟩) G4.out (.slice (some ⟨g10, 0, none⟩) n c10)) (p := ⟨g4, 2, none⟩) G4.out (.slice AO no co))⟩
  refine start_ (n := 8) (S := fun w' => w'.cell? ⟨g9, 1, none⟩ = some (.slice (some ⟨g10, 0, none⟩) n c10) ∧ w'.cell? ⟨g10, k * 8, none⟩ = some (.int .i64 y.f0.f0) ∧ w'.cell? ⟨g10, k * 8 + 1, none⟩ = some (.int .i64 y.f0.f1) ∧ w'.cell? ⟨g10, k * 8 + 2, none⟩ = some (.int .i64 y.f1) ∧ w'.cell? ⟨g10, k * 8 + 3, none⟩ = some (.int .i64 y.f2) ∧ w'.cell? ⟨g10, k * 8 + 4, none⟩ = some (.int .i64 y.f3) ∧ w'.cell? ⟨g10, k * 8 + 5, none⟩ = some (.int .i64 y.f4) ∧ w'.cell? ⟨g10, k * 8 + 6, none⟩ = some (.int .i64 y.f5) ∧ w'.cell? ⟨g10, k * 8 + 7, none⟩ = some (.int .i64 y.f6) ∧ w'.cell? ⟨g3, 0, none⟩ = some (.int .i64 x.f0.f0) ∧ w'.cell? ⟨g3, 1, none⟩ = some (.int .i64 x.f0.f1) ∧ w'.cell? ⟨g3, 2, none⟩ = some (.int .i64 x.f1) ∧ w'.cell? ⟨g3, 3, none⟩ = some (.int .i64 x.f2) ∧ w'.cell? ⟨g3, 4, none⟩ = some (.int .i64 x.f3) ∧ w'.cell? ⟨g3, 5, none⟩ = some (.int .i64 x.f4) ∧ w'.cell? ⟨g3, 6, none⟩ = some (.int .i64 x.f5) ∧ w'.cell? ⟨g3, 7, none⟩ = some (.int .i64 x.f6)) (ds := []) #[false, false, false, false, false, false, false, false] (by kernel_rfl) rfl rfl ⟨rc1, e0, e1, e2, e3, e4, e5, e6, e7, ic0, ic1, ic2, ic3, ic4, ic5, ic6, ic7⟩ (fun hHeld => ?_)
  refine pure_ (i := 0) (N := some 63) (v := ?_) (a' := ?_) #[true, false, false, false, false, false, false, false] rfl rfl (by kernel_rfl) (fun _ _ _ h => h) (Or.inl ⟨by rfl, ?_⟩) ?_ ?_
  rotate_left
  · intro w'
    go_simp
    with_reducible rfl
  rotate_left
  · simp only [Act.put, List.setIfInBounds_toArray, List.set_cons_zero, List.set_cons_succ, i64_w, i32_w]
    rfl
  refine pure_ (i := 2) (N := some 65) (v := ?_) (a' := ?_) #[true, false, true, false, false, false, false, false] rfl rfl (by kernel_rfl) (fun _ _ _ h => h) (Or.inl ⟨by rfl, ?_⟩) ?_ ?_
  rotate_left
  · intro w'
    go_simp
    with_reducible rfl
  rotate_left
  · simp only [Act.put, List.setIfInBounds_toArray, List.set_cons_zero, List.set_cons_succ, i64_w, i32_w]
    rfl
  refine take_ (i := 1) (N := some 64) (v := ?_) (a' := ?_) #[true, true, true, false, false, false, false, false] rfl rfl (by kernel_rfl) (fun _ _ _ h => h) (Or.inl ⟨by rfl, ?_⟩) hHeld ?_ ?_
  rotate_left
  · rintro w' ⟨s0, s1, s2, s3, s4, s5, s6, s7, s8, s9, s10, s11, s12, s13, s14, s15, s16⟩
    go_simp
    with_reducible rfl
  rotate_left
  · simp only [Act.put, List.setIfInBounds_toArray, List.set_cons_zero, List.set_cons_succ, i64_w, i32_w]
    rfl
  refine pure_ (i := 3) (N := some 66) (v := ?_) (a' := ?_) #[true, true, true, true, false, false, false, false] rfl rfl (by kernel_rfl) (fun _ _ _ h => h) (Or.inl ⟨by rfl, ?_⟩) ?_ ?_
  rotate_left
  · intro w'
    go_simp
    with_reducible rfl
  rotate_left
  · simp only [Act.put, List.setIfInBounds_toArray, List.set_cons_zero, List.set_cons_succ, i64_w, i32_w]
    rfl
  refine take_ (i := 4) (N := some 67) (v := ?_) (a' := ?_) #[true, true, true, true, true, false, false, false] rfl rfl (by kernel_rfl) (fun _ _ _ h => h) (Or.inl ⟨by rfl, ?_⟩) hHeld ?_ ?_
  rotate_left
  · rintro w' ⟨s0, s1, s2, s3, s4, s5, s6, s7, s8, s9, s10, s11, s12, s13, s14, s15, s16⟩
    go_simp
    with_reducible rfl
  rotate_left
  · simp only [Act.put, List.setIfInBounds_toArray, List.set_cons_zero, List.set_cons_succ, i64_w, i32_w]
    rfl
  refine take_ (i := 5) (N := some 68) (v := ?_) (a' := ?_) #[true, true, true, true, true, true, false, false] rfl rfl (by kernel_rfl) (fun _ _ _ h => h) (Or.inl ⟨by rfl, ?_⟩) hHeld ?_ ?_
  rotate_left
  · rintro w' ⟨s0, s1, s2, s3, s4, s5, s6, s7, s8, s9, s10, s11, s12, s13, s14, s15, s16⟩
    go_simp
    with_reducible rfl
  rotate_left
  · simp only [Act.put, List.setIfInBounds_toArray, List.set_cons_zero, List.set_cons_succ, i64_w, i32_w]
    rfl
  refine pure_ (i := 6) (N := some 69) (v := ?_) (a' := ?_) #[true, true, true, true, true, true, true, false] rfl rfl (by kernel_rfl) (fun _ _ _ h => h) (Or.inl ⟨by rfl, ?_⟩) ?_ ?_
  rotate_left
  · intro w'
    go_simp
    with_reducible rfl
  rotate_left
  · simp only [Act.put, List.setIfInBounds_toArray, List.set_cons_zero, List.set_cons_succ, i64_w, i32_w]
    rfl
  refine pure_ (i := 7) (N := some 62) (v := ?_) (a' := ?_) #[true, true, true, true, true, true, true, true] rfl rfl (by kernel_rfl) (fun _ _ _ h => h) (Or.inl ⟨by rfl, ?_⟩) ?_ ?_
  rotate_left
  · intro w'
    go_simp
    with_reducible rfl
  rotate_left
  · simp only [Act.put, List.setIfInBounds_toArray, List.set_cons_zero, List.set_cons_succ, i64_w, i32_w]
    rfl
  refine done_ (by kernel_rfl) ?_
  have B14 := Aside0.mk (below_drew B11.out); have K9k := Aside0.mk (blk_drew K9i.out); have K4k := Aside0.mk (blk_drew K4i.out); have K3k := Aside0.mk (blk_drew K3i.out); have O14 := Aside0.mk (Kd.R_drew O11.out)
  clear hb e0 e1 e2 e3 e4 e5 e6 e7 rc0 rf0 rc1 rf1 rc2 rf2 ic0 if0 ic1 if1 ic2 if2 ic3 if3 ic4 if4 ic5 if5 ic6 if6 ic7 if7
  generalize w11.drew = w14 at B14 K9k K4k K3k O14 ⊢
  have rc0 : w14.cell? ⟨g9, 0, none⟩ = some (.int .i64 me) := (blk_cell K9k.out 0).trans rfl; have rf0 := blk_frozen K9k.out 0; have rc1 : w14.cell? ⟨g9, 1, none⟩ = some (.slice (some ⟨g10, 0, none⟩) n c10) := (blk_cell K9k.out 1).trans rfl; have rf1 := blk_frozen K9k.out 1; have rc2 : w14.cell? ⟨g9, 2, none⟩ = some (.slice AO no co) := (blk_cell K9k.out 2).trans rfl; have rf2 := blk_frozen K9k.out 2
  have sc0 : w14.cell? ⟨g4, 0, none⟩ = some (.int .i64 0) := (blk_cell K4k.out 0).trans rfl; have sf0 := blk_frozen K4k.out 0; have sc1 : w14.cell? ⟨g4, 1, none⟩ = some (.slice none 0 0) := (blk_cell K4k.out 1).trans rfl; have sf1 := blk_frozen K4k.out 1; have sc2 : w14.cell? ⟨g4, 2, none⟩ = some (.slice none 0 0) := (blk_cell K4k.out 2).trans rfl; have sf2 := blk_frozen K4k.out 2
  have ic0 : w14.cell? ⟨g3, 0, none⟩ = some (.int .i64 x.f0.f0) := (blk_cell K3k.out 0).trans rfl; have if0 := blk_frozen K3k.out 0; have ic1 : w14.cell? ⟨g3, 1, none⟩ = some (.int .i64 x.f0.f1) := (blk_cell K3k.out 1).trans rfl; have if1 := blk_frozen K3k.out 1; have ic2 : w14.cell? ⟨g3, 2, none⟩ = some (.int .i64 x.f1) := (blk_cell K3k.out 2).trans rfl; have if2 := blk_frozen K3k.out 2; have ic3 : w14.cell? ⟨g3, 3, none⟩ = some (.int .i64 x.f2) := (blk_cell K3k.out 3).trans rfl; have if3 := blk_frozen K3k.out 3; have ic4 : w14.cell? ⟨g3, 4, none⟩ = some (.int .i64 x.f3) := (blk_cell K3k.out 4).trans rfl; have if4 := blk_frozen K3k.out 4; have ic5 : w14.cell? ⟨g3, 5, none⟩ = some (.int .i64 x.f4) := (blk_cell K3k.out 5).trans rfl; have if5 := blk_frozen K3k.out 5; have ic6 : w14.cell? ⟨g3, 6, none⟩ = some (.int .i64 x.f5) := (blk_cell K3k.out 6).trans rfl; have if6 := blk_frozen K3k.out 6; have ic7 : w14.cell? ⟨g3, 7, none⟩ = some (.int .i64 x.f6) := (blk_cell K3k.out 7).trans rfl; have if7 := blk_frozen K3k.out 7
  go_wp2_with (first | ((with_reducible refine gate_store (t := 33) (p := 74) (v := .tmp 73) rfl ?_); obtain ⟨oc, hol, -, hoc, -⟩ := Kd.R_elem O14.out z33 (k : Int) (by omega) (by have := KN.out; omega); rw [Int.toNat_natCast] at hoc; refine Kd.R_store k33 (w0 := w14) w9.heap.size rfl rfl 33 (.tmp 74) (.tmp 73) rfl 33 (k : Int) 0 l x (.agg #[.int .i64 x.f0.f0, .int .i64 x.f0.f1, .int .i64 x.f1, .int .i64 x.f2, .int .i64 x.f3, .int .i64 x.f4, .int .i64 x.f5, .int .i64 x.f6]) [.int .i64 x.f0.f0, .int .i64 x.f0.f1, .int .i64 x.f1, .int .i64 x.f2, .int .i64 x.f3, .int .i64 x.f4, .int .i64 x.f5, .int .i64 x.f6] oc (fun k => k ≠ g4 ∧ k ≠ g9) (fun _ => False) rfl ?hoff rfl rfl (by kernel_rfl) ?h1 O14.out (by omega) (by have := KN.out; omega) hol (by rw [Int.toNat_natCast]; exact hoc) (Nat.le_refl 8) ?hM (fun _ h => h.elim) (Below.refl _ _) ?_; (case hoff => rw [Int.toNat_natCast]; first | rfl | (show _ = k * 8 + 0; omega)); (case h1 => intro q hq; simp at hq; rcases hq with rfl | rfl | rfl | rfl | rfl | rfl | rfl | rfl <;> rfl); (case hM => (rw [List.drop_of_length_le (by rw [hol]; exact Nat.le_refl 8), List.take_zero, List.nil_append, List.append_nil]; exact k33_mkM _ _ _ x)); intro w15 hO hb hg; rw [Int.toNat_natCast] at hO; have B15 := Aside0.mk (B14.out.trans (hb.mono B9.out.size)); have K9m := Aside0.mk (blk_grown K9k.out hg (fun e => by injection e with e; have := G10.out; have := blk_lt K9.out; omega)); have K4m := Aside0.mk (blk_grown K4k.out hg (fun e => by injection e with e; have := G10.out; have := blk_lt K4g.out; omega)); have O15 := Aside0.mk hO; clear hb hg hO hol hoc rc0 rf0 rc1 rf1 rc2 rf2 ic0 if0 ic1 if1 ic2 if2 ic3 if3 ic4 if4 ic5 if5 ic6 if6 ic7 if7; have rc0 : w15.cell? ⟨g9, 0, none⟩ = some (.int .i64 me) := (blk_cell K9m.out 0).trans rfl; have rf0 := blk_frozen K9m.out 0; have rc1 : w15.cell? ⟨g9, 1, none⟩ = some (.slice (some ⟨g10, 0, none⟩) n c10) := (blk_cell K9m.out 1).trans rfl; have rf1 := blk_frozen K9m.out 1; have rc2 : w15.cell? ⟨g9, 2, none⟩ = some (.slice AO no co) := (blk_cell K9m.out 2).trans rfl; have rf2 := blk_frozen K9m.out 2; have sc0 : w15.cell? ⟨g4, 0, none⟩ = some (.int .i64 0) := (blk_cell K4m.out 0).trans rfl; have sf0 := blk_frozen K4m.out 0; have sc1 : w15.cell? ⟨g4, 1, none⟩ = some (.slice none 0 0) := (blk_cell K4m.out 1).trans rfl; have sf1 := blk_frozen K4m.out 1; have sc2 : w15.cell? ⟨g4, 2, none⟩ = some (.slice none 0 0) := (blk_cell K4m.out 2).trans rfl; have sf2 := blk_frozen K4m.out 2))
  refine bodyPost_ret (results_ct rfl _ _ g4 26 #[.int .i64 me, .slice (some ⟨g10, 0, none⟩) n c10, .slice AO no co] (0, 0) _ rfl (blk_put (blk_put (blk_put K4m.out 0 (.int .i64 me) (cs' := #[.int .i64 me, .slice none 0 0, .slice none 0 0]) rfl) 1 (.slice (some ⟨g10, 0, none⟩) n c10) (cs' := #[.int .i64 me, .slice (some ⟨g10, 0, none⟩) n c10, .slice none 0 0]) rfl) 2 (.slice AO no co) (cs' := #[.int .i64 me, .slice (some ⟨g10, 0, none⟩) n c10, .slice AO no co]) rfl) Try.underlying26 rfl (by kernel_rfl)) rfl ?_
  exact ⟨_, _, _, rfl, by rw [List.length_set]; exact HNN.out, Kd.R_lower (Kd.R_mono (Kd.R_kept O15.out ((((Kept.refl w15 (fun k => k = g4)).setCell (p := ⟨g4, 0, none⟩) (.inl rfl) (.int .i64 me)).setCell (p := ⟨g4, 1, none⟩) (.inl rfl) (.slice (some ⟨g10, 0, none⟩) n c10)).setCell (p := ⟨g4, 2, none⟩) (.inl rfl) (.slice AO no co)) (fun k hk e => hk.1 e)) (fun _ _ => trivial)) B9.out.size, (below_setB (below_setB (below_setB B15.out (p := ⟨g4, 0, none⟩) G4.out (.int .i64 me)) (p := ⟨g4, 1, none⟩) G4.out (.slice (some ⟨g10, 0, none⟩) n c10)) (p := ⟨g4, 2, none⟩) G4.out (.slice AO no co))⟩
set_option maxHeartbeats 8000000 in
set_option maxRecDepth 100000 in
theorem put_old_b {me : Int} {A AO : Option Addr} {n c no co : Nat} {l : List S33} {x : S33} {w : World} (hn : n = l.length) (hC : Kd.C k33 w A l.length l) (hs : SortI l) (hl : n ≤ 1023) (hch : ChkOK x) (hm1 : x.f0.f0 ≠ me) (hme : x.f1 = me) (hth : thereI l x.f0 = true) :
    Calls Try.prog 7 #[.agg #[.int .i64 me, .slice A n c, .slice AO no co], itV x] w fun r w' => ∃ A' n' c', r = .returned (.tuple #[.agg #[.int .i64 me, .slice A' n' c', .slice AO no co], .int .i64 0]) ∧ n' = (putI l x).length ∧ Kd.R k33 33 w' w.heap.size (fun _ => True) (.slice A' n' c') (putI l x) ∧ Below w.heap.size w w' := by
  have hlt := thereI_lt hth
  have HC := Aside0.mk hC
  have BSF := Aside0.mk (fun (w' : World) (hb' : Below w.heap.size w w') => bsfI_calls (c := c) (t := x.f0) (w := w') hn (Kd.C_below hC hb') (by omega) hs)
  obtain ⟨kc, hkc⟩ := hch
  have HCH := Aside0.mk hkc
  have HAT := Aside0.mk (show atI l x.f0 ≤ n by rw [hn]; exact atI_le l x.f0)
  have m1 : (x.f0.f0 != me) = true := bne_iff_ne.mpr hm1
  have m2 : (x.f1 != me) = false := by simp [hme]
  rw [hth] at BSF
  obtain ⟨k, hk⟩ : ∃ k, atI l x.f0 = k := ⟨_, rfl⟩
  rw [hk] at BSF HAT
  have HK := Aside0.mk hk; have HL := Aside0.mk hl; have HNN := Aside0.mk hn; have HTH := Aside0.mk hth
  have f1 : decide ((n : Int) ≥ 1024) = false := decide_eq_false (by omega)
  have f2 : ((n : Int) ≥ 1024) = False := eq_false (by omega)
  have f3 : (1024 ≤ n) = False := eq_false (by omega)
  have f4 : decide (1024 ≤ n) = false := decide_eq_false (by omega)
  have hsz := hlt
  rw [hk, ← hn] at hlt
  have KN := Aside0.mk hlt
  obtain ⟨y, hy⟩ : ∃ y, y = l.getD k z33 := ⟨_, rfl⟩
  have HY := Aside0.mk hy
  have HP := Aside0.mk (show putI l x = l.set k x by unfold putI; rw [hth, if_pos rfl, hk])
  rw [HP.out]
  have ix1 : (0 : Int) ≤ (k : Int) := by omega
  have ix2 : (k : Int) < (n : Int) := by omega
  have ix3 := eq_true ix1; have ix4 := eq_true ix2
  have ix5 : decide ((k : Int) < (n : Int)) = true := decide_eq_true ix2
  have ix6 : decide (k < n) = true := decide_eq_true (by omega)
  have ix7 : (k < n) = True := eq_true (by omega)
  clear hn hC hs hl hkc hth hk HP hme hm1 hy hlt hsz
  go_enter Try.func7, Try.ntmps7
  go_wp2_with (first | ((with_reducible refine gate_dst (N := 2) rfl ?_); refine box_event ?hg (N := 2) ?hd (cs := #[.int .i64 me, .slice A n c, .slice AO no co]) (t := 26) ?hr ?_; (case hd => rfl); (case hg => rfl); (case hr => first | (go_simp; done) | (go_simp; rfl)); intro g2 hg w2 hbox hb; have B2 := Aside0.mk hb; have K2 := Aside0.mk hbox; have G2 := Aside0.mk (show w.heap.size ≤ g2 from by rw [hg]; exact Nat.le_refl _); clear hb hg hbox) | ((with_reducible refine gate_dst (N := 3) rfl ?_); refine box_event ?hg (N := 3) ?hd (cs := #[.int .i64 x.f0.f0, .int .i64 x.f0.f1, .int .i64 x.f1, .int .i64 x.f2, .int .i64 x.f3, .int .i64 x.f4, .int .i64 x.f5, .int .i64 x.f6]) (t := 33) ?hr ?_; (case hd => rfl); (case hg => rfl); (case hr => first | (go_simp; done) | (go_simp; rfl)); intro g3 hg w3 hbox hb; have B3 := Aside0.mk (below_step B2.out hb); have K2b := Aside0.mk (blk_below K2.out hb); have K3 := Aside0.mk hbox; clear hb hg hbox) | ((with_reducible refine gate_dst (N := 4) rfl ?_); refine box_event ?hg (N := 4) ?hd (cs := #[.int .i64 0, .slice none 0 0, .slice none 0 0]) (t := 26) ?hr ?_; (case hd => rfl); (case hg => rfl); (case hr => first | (go_simp; done) | (go_simp; rfl)); intro g4 hg w4 hbox hb; have B4 := Aside0.mk (below_step B3.out hb); have K2c := Aside0.mk (blk_below K2b.out hb); have K3c := Aside0.mk (blk_below K3.out hb); have K4 := Aside0.mk hbox; have G4 := Aside0.mk (show w.heap.size ≤ g4 from by rw [hg]; exact B3.out.size); have ic0 : w4.cell? ⟨g3, 0, none⟩ = some (.int .i64 x.f0.f0) := (blk_cell K3c.out 0).trans rfl; have if0 := blk_frozen K3c.out 0; have ic1 : w4.cell? ⟨g3, 1, none⟩ = some (.int .i64 x.f0.f1) := (blk_cell K3c.out 1).trans rfl; have if1 := blk_frozen K3c.out 1; have ic2 : w4.cell? ⟨g3, 2, none⟩ = some (.int .i64 x.f1) := (blk_cell K3c.out 2).trans rfl; have if2 := blk_frozen K3c.out 2; have ic3 : w4.cell? ⟨g3, 3, none⟩ = some (.int .i64 x.f2) := (blk_cell K3c.out 3).trans rfl; have if3 := blk_frozen K3c.out 3; have ic4 : w4.cell? ⟨g3, 4, none⟩ = some (.int .i64 x.f3) := (blk_cell K3c.out 4).trans rfl; have if4 := blk_frozen K3c.out 4; have ic5 : w4.cell? ⟨g3, 5, none⟩ = some (.int .i64 x.f4) := (blk_cell K3c.out 5).trans rfl; have if5 := blk_frozen K3c.out 5; have ic6 : w4.cell? ⟨g3, 6, none⟩ = some (.int .i64 x.f5) := (blk_cell K3c.out 6).trans rfl; have if6 := blk_frozen K3c.out 6; have ic7 : w4.cell? ⟨g3, 7, none⟩ = some (.int .i64 x.f6) := (blk_cell K3c.out 7).trans rfl; have if7 := blk_frozen K3c.out 7; clear hb hg hbox) | (go_at_call 6; refine (item_Check.calls kc _ _ _ _ _ _ _ _ 0 _ HCH.out).mono ?_; rintro r w5 ⟨rfl, hb⟩; have B5 := Aside0.mk (below_step B4.out hb); have K2d := Aside0.mk (blk_below K2c.out hb); have K3d := Aside0.mk (blk_below K3c.out hb); have K4d := Aside0.mk (blk_below K4.out hb); clear hb ic0 if0 ic1 if1 ic2 if2 ic3 if3 ic4 if4 ic5 if5 ic6 if6 ic7 if7; have ic0 : w5.cell? ⟨g3, 0, none⟩ = some (.int .i64 x.f0.f0) := (blk_cell K3d.out 0).trans rfl; have if0 := blk_frozen K3d.out 0; have ic1 : w5.cell? ⟨g3, 1, none⟩ = some (.int .i64 x.f0.f1) := (blk_cell K3d.out 1).trans rfl; have if1 := blk_frozen K3d.out 1; have ic2 : w5.cell? ⟨g3, 2, none⟩ = some (.int .i64 x.f1) := (blk_cell K3d.out 2).trans rfl; have if2 := blk_frozen K3d.out 2; have ic3 : w5.cell? ⟨g3, 3, none⟩ = some (.int .i64 x.f2) := (blk_cell K3d.out 3).trans rfl; have if3 := blk_frozen K3d.out 3; have ic4 : w5.cell? ⟨g3, 4, none⟩ = some (.int .i64 x.f3) := (blk_cell K3d.out 4).trans rfl; have if4 := blk_frozen K3d.out 4; have ic5 : w5.cell? ⟨g3, 5, none⟩ = some (.int .i64 x.f4) := (blk_cell K3d.out 5).trans rfl; have if5 := blk_frozen K3d.out 5; have ic6 : w5.cell? ⟨g3, 6, none⟩ = some (.int .i64 x.f5) := (blk_cell K3d.out 6).trans rfl; have if6 := blk_frozen K3d.out 6; have ic7 : w5.cell? ⟨g3, 7, none⟩ = some (.int .i64 x.f6) := (blk_cell K3d.out 7).trans rfl; have if7 := blk_frozen K3d.out 7; have qc0 : w5.cell? ⟨g2, 0, none⟩ = some (.int .i64 me) := (blk_cell K2d.out 0).trans rfl; have qf0 := blk_frozen K2d.out 0; have qc1 : w5.cell? ⟨g2, 1, none⟩ = some (.slice A n c) := (blk_cell K2d.out 1).trans rfl; have qf1 := blk_frozen K2d.out 1; have qc2 : w5.cell? ⟨g2, 2, none⟩ = some (.slice AO no co) := (blk_cell K2d.out 2).trans rfl; have qf2 := blk_frozen K2d.out 2) | (go_at_call 20; refine (BSF.out _ B5.out).mono ?_; rintro r w6 ⟨rfl, hb⟩; have B6 := Aside0.mk (below_step B5.out hb); have K2e := Aside0.mk (blk_below K2d.out hb); have K3e := Aside0.mk (blk_below K3d.out hb); have K4e := Aside0.mk (blk_below K4d.out hb); clear hb BSF ic0 if0 ic1 if1 ic2 if2 ic3 if3 ic4 if4 ic5 if5 ic6 if6 ic7 if7 qc0 qf0 qc1 qf1 qc2 qf2; have ic0 : w6.cell? ⟨g3, 0, none⟩ = some (.int .i64 x.f0.f0) := (blk_cell K3e.out 0).trans rfl; have if0 := blk_frozen K3e.out 0; have ic1 : w6.cell? ⟨g3, 1, none⟩ = some (.int .i64 x.f0.f1) := (blk_cell K3e.out 1).trans rfl; have if1 := blk_frozen K3e.out 1; have ic2 : w6.cell? ⟨g3, 2, none⟩ = some (.int .i64 x.f1) := (blk_cell K3e.out 2).trans rfl; have if2 := blk_frozen K3e.out 2; have ic3 : w6.cell? ⟨g3, 3, none⟩ = some (.int .i64 x.f2) := (blk_cell K3e.out 3).trans rfl; have if3 := blk_frozen K3e.out 3; have ic4 : w6.cell? ⟨g3, 4, none⟩ = some (.int .i64 x.f3) := (blk_cell K3e.out 4).trans rfl; have if4 := blk_frozen K3e.out 4; have ic5 : w6.cell? ⟨g3, 5, none⟩ = some (.int .i64 x.f4) := (blk_cell K3e.out 5).trans rfl; have if5 := blk_frozen K3e.out 5; have ic6 : w6.cell? ⟨g3, 6, none⟩ = some (.int .i64 x.f5) := (blk_cell K3e.out 6).trans rfl; have if6 := blk_frozen K3e.out 6; have ic7 : w6.cell? ⟨g3, 7, none⟩ = some (.int .i64 x.f6) := (blk_cell K3e.out 7).trans rfl; have if7 := blk_frozen K3e.out 7; have qc0 : w6.cell? ⟨g2, 0, none⟩ = some (.int .i64 me) := (blk_cell K2e.out 0).trans rfl; have qf0 := blk_frozen K2e.out 0; have qc1 : w6.cell? ⟨g2, 1, none⟩ = some (.slice A n c) := (blk_cell K2e.out 1).trans rfl; have qf1 := blk_frozen K2e.out 1; have qc2 : w6.cell? ⟨g2, 2, none⟩ = some (.slice AO no co) := (blk_cell K2e.out 2).trans rfl; have qf2 := blk_frozen K2e.out 2) | ((with_reducible refine gate_dst (N := 9) rfl ?_); refine box_event ?hg (N := 9) ?hd (cs := #[.int .i64 0, .slice none 0 0, .slice none 0 0]) (t := 26) ?hr ?_; (case hd => rfl); (case hg => rfl); (case hr => first | (go_simp; done) | (go_simp; rfl)); intro g9 hg w9m hbox hb; have ZB := Aside0.mk (below_step B6.out hb); have K2f := Aside0.mk (blk_below K2e.out hb); have K3f := Aside0.mk (blk_below K3e.out hb); have K4f := Aside0.mk (blk_below K4e.out hb); have ZX := Aside0.mk hbox; have G9 := Aside0.mk (show w.heap.size ≤ g9 ∧ w6.heap.size ≤ g9 from ⟨by rw [hg]; exact B6.out.size, by rw [hg]; exact Nat.le_refl _⟩); clear ic0 if0 ic1 if1 ic2 if2 ic3 if3 ic4 if4 ic5 if5 ic6 if6 ic7 if7 qc0 qf0 qc1 qf1 qc2 qf2; have zc0 : w9m.cell? ⟨g9, 0, none⟩ = some (.int .i64 0) := (blk_cell ZX.out 0).trans rfl; have zf0 := blk_frozen ZX.out 0; have zc1 : w9m.cell? ⟨g9, 1, none⟩ = some (.slice none 0 0) := (blk_cell ZX.out 1).trans rfl; have zf1 := blk_frozen ZX.out 1; have zc2 : w9m.cell? ⟨g9, 2, none⟩ = some (.slice none 0 0) := (blk_cell ZX.out 2).trans rfl; have zf2 := blk_frozen ZX.out 2; clear hb hg hbox) | ((with_reducible refine gate_dst (N := 49) rfl ?_); have B9 := Aside0.mk (below_setB (below_setB (below_setB ZB.out (p := ⟨g9, 0, none⟩) G9.out.1 (.int .i64 me)) (p := ⟨g9, 1, none⟩) G9.out.1 (.slice A n c)) (p := ⟨g9, 2, none⟩) G9.out.1 (.slice AO no co)); have K9 := Aside0.mk (blk_put (blk_put (blk_put ZX.out 0 (.int .i64 me) (cs' := #[.int .i64 me, .slice none 0 0, .slice none 0 0]) rfl) 1 (.slice A n c) (cs' := #[.int .i64 me, .slice A n c, .slice none 0 0]) rfl) 2 (.slice AO no co) (cs' := #[.int .i64 me, .slice A n c, .slice AO no co]) rfl); have K2g := Aside0.mk (((((((Kept.refl w9m (fun k => k = g9)).setCell (p := ⟨g9, 0, none⟩) (.inl rfl) (.int .i64 me)).setCell (p := ⟨g9, 1, none⟩) (.inl rfl) (.slice A n c)).setCell (p := ⟨g9, 2, none⟩) (.inl rfl) (.slice AO no co))).2 g2 (blk_lt K2f.out) (Nat.ne_of_lt (Nat.lt_of_lt_of_le (blk_lt K2e.out) G9.out.2))).trans K2f.out); have K3g := Aside0.mk (((((((Kept.refl w9m (fun k => k = g9)).setCell (p := ⟨g9, 0, none⟩) (.inl rfl) (.int .i64 me)).setCell (p := ⟨g9, 1, none⟩) (.inl rfl) (.slice A n c)).setCell (p := ⟨g9, 2, none⟩) (.inl rfl) (.slice AO no co))).2 g3 (blk_lt K3f.out) (Nat.ne_of_lt (Nat.lt_of_lt_of_le (blk_lt K3e.out) G9.out.2))).trans K3f.out); have K4g := Aside0.mk (((((((Kept.refl w9m (fun k => k = g9)).setCell (p := ⟨g9, 0, none⟩) (.inl rfl) (.int .i64 me)).setCell (p := ⟨g9, 1, none⟩) (.inl rfl) (.slice A n c)).setCell (p := ⟨g9, 2, none⟩) (.inl rfl) (.slice AO no co))).2 g4 (blk_lt K4f.out) (Nat.ne_of_lt (Nat.lt_of_lt_of_le (blk_lt K4e.out) G9.out.2))).trans K4f.out); clear ZB ZX K2f K3f K4f zc0 zf0 zc1 zf1 zc2 zf2; generalize (((w9m.setCell ⟨g9, 0, none⟩ (.int .i64 me)).setCell ⟨g9, 1, none⟩ (.slice A n c)).setCell ⟨g9, 2, none⟩ (.slice AO no co)) = w9 at B9 K9 K2g K3g K4g ⊢; have qc0 : w9.cell? ⟨g2, 0, none⟩ = some (.int .i64 me) := (blk_cell K2g.out 0).trans rfl; have qf0 := blk_frozen K2g.out 0; have qc1 : w9.cell? ⟨g2, 1, none⟩ = some (.slice A n c) := (blk_cell K2g.out 1).trans rfl; have qf1 := blk_frozen K2g.out 1; have qc2 : w9.cell? ⟨g2, 2, none⟩ = some (.slice AO no co) := (blk_cell K2g.out 2).trans rfl; have qf2 := blk_frozen K2g.out 2) | (go_at_call 22; refine (cloneI_calls (w := w9) HNN.out (Kd.C_below HC.out B9.out) (by have := HL.out; have := HNN.out; omega)).mono ?_; rintro r w10 ⟨v10, rfl, hO, hb⟩; obtain ⟨g10, c10, e10, hb10, -, -⟩ := Kd.R_form hO (by have := KN.out; have := HNN.out; omega); subst e10; have G10 := Aside0.mk hb10; clear hb10; rw [← HNN.out] at hO ⊢; have O10 := Aside0.mk (Kd.R_mono (ok' := (fun k => k ≠ g4 ∧ k ≠ g9)) (Kd.R_bound hO) (fun k hk => ⟨Nat.ne_of_gt (Nat.lt_of_lt_of_le (blk_lt K4g.out) hk.2.1), Nat.ne_of_gt (Nat.lt_of_lt_of_le (blk_lt K9.out) hk.2.1)⟩)); have B10 := Aside0.mk (below_step B9.out hb); have K9h := Aside0.mk (blk_below K9.out hb); have K3h := Aside0.mk (blk_below K3g.out hb); have K4h := Aside0.mk (blk_below K4g.out hb); have S10 := Aside0.mk hb.size; clear hb hO qc0 qf0 qc1 qf1 qc2 qf2; have rc0 : w10.cell? ⟨g9, 0, none⟩ = some (.int .i64 me) := (blk_cell K9h.out 0).trans rfl; have rf0 := blk_frozen K9h.out 0; have rc1 : w10.cell? ⟨g9, 1, none⟩ = some (.slice A n c) := (blk_cell K9h.out 1).trans rfl; have rf1 := blk_frozen K9h.out 1; have rc2 : w10.cell? ⟨g9, 2, none⟩ = some (.slice AO no co) := (blk_cell K9h.out 2).trans rfl; have rf2 := blk_frozen K9h.out 2) | ((with_reducible refine gate_dst (N := 54) rfl ?_); have B11 := Aside0.mk (below_setB B10.out (p := ⟨g9, 1, none⟩) G9.out.1 (.slice (some ⟨g10, 0, none⟩) n c10)); have K9i := Aside0.mk (blk_put K9h.out 1 (.slice (some ⟨g10, 0, none⟩) n c10) (cs' := #[.int .i64 me, .slice (some ⟨g10, 0, none⟩) n c10, .slice AO no co]) rfl); have K3i := Aside0.mk (blk_far K3h.out (p := ⟨g9, 1, none⟩) (Nat.ne_of_lt (Nat.lt_of_lt_of_le (blk_lt K3e.out) G9.out.2)) (.slice (some ⟨g10, 0, none⟩) n c10)); have K4i := Aside0.mk (blk_far K4h.out (p := ⟨g9, 1, none⟩) (Nat.ne_of_lt (Nat.lt_of_lt_of_le (blk_lt K4e.out) G9.out.2)) (.slice (some ⟨g10, 0, none⟩) n c10)); have O11 := Aside0.mk (Kd.R_far O10.out (p := ⟨g9, 1, none⟩) (fun k hk => hk.2) (.slice (some ⟨g10, 0, none⟩) n c10)); have S11 := Aside0.mk (show w9.heap.size ≤ (w10.setCell ⟨g9, 1, none⟩ (.slice (some ⟨g10, 0, none⟩) n c10)).heap.size by have := S10.out; simpa [World.setCell] using this); clear K9h K3h K4h B10 O10 S10 rc0 rf0 rc1 rf1 rc2 rf2; generalize (w10.setCell ⟨g9, 1, none⟩ (.slice (some ⟨g10, 0, none⟩) n c10)) = w11 at B11 K9i K3i K4i O11 S11 ⊢; have rc0 : w11.cell? ⟨g9, 0, none⟩ = some (.int .i64 me) := (blk_cell K9i.out 0).trans rfl; have rf0 := blk_frozen K9i.out 0; have rc1 : w11.cell? ⟨g9, 1, none⟩ = some (.slice (some ⟨g10, 0, none⟩) n c10) := (blk_cell K9i.out 1).trans rfl; have rf1 := blk_frozen K9i.out 1; have rc2 : w11.cell? ⟨g9, 2, none⟩ = some (.slice AO no co) := (blk_cell K9i.out 2).trans rfl; have rf2 := blk_frozen K9i.out 2; have ic0 : w11.cell? ⟨g3, 0, none⟩ = some (.int .i64 x.f0.f0) := (blk_cell K3i.out 0).trans rfl; have if0 := blk_frozen K3i.out 0; have ic1 : w11.cell? ⟨g3, 1, none⟩ = some (.int .i64 x.f0.f1) := (blk_cell K3i.out 1).trans rfl; have if1 := blk_frozen K3i.out 1; have ic2 : w11.cell? ⟨g3, 2, none⟩ = some (.int .i64 x.f1) := (blk_cell K3i.out 2).trans rfl; have if2 := blk_frozen K3i.out 2; have ic3 : w11.cell? ⟨g3, 3, none⟩ = some (.int .i64 x.f2) := (blk_cell K3i.out 3).trans rfl; have if3 := blk_frozen K3i.out 3; have ic4 : w11.cell? ⟨g3, 4, none⟩ = some (.int .i64 x.f3) := (blk_cell K3i.out 4).trans rfl; have if4 := blk_frozen K3i.out 4; have ic5 : w11.cell? ⟨g3, 5, none⟩ = some (.int .i64 x.f4) := (blk_cell K3i.out 5).trans rfl; have if5 := blk_frozen K3i.out 5; have ic6 : w11.cell? ⟨g3, 6, none⟩ = some (.int .i64 x.f5) := (blk_cell K3i.out 6).trans rfl; have if6 := blk_frozen K3i.out 6; have ic7 : w11.cell? ⟨g3, 7, none⟩ = some (.int .i64 x.f6) := (blk_cell K3i.out 7).trans rfl; have if7 := blk_frozen K3i.out 7))
  obtain ⟨e0, e1, e2, e3, e4, e5, e6, e7⟩ := itG O11.out (k := k) (by have := KN.out; have := HNN.out; omega)
  rw [← HY.out] at e0 e1 e2 e3 e4 e5 e6 e7
  obtain ⟨b, hb⟩ : ∃ b, eq8 y.f0.f0 y.f0.f1 y.f1 y.f2 y.f3 y.f4 y.f5 y.f6 x.f0.f0 x.f0.f1 x.f1 x.f2 x.f3 x.f4 x.f5 x.f6 = b := ⟨_, rfl⟩
  cases b
  rotate_left
  · have HXY := Aside0.mk (eqI_iff.1 hb)
    refine start_ (n := 8) (S := fun w' => w'.cell? ⟨g9, 1, none⟩ = some (.slice (some ⟨g10, 0, none⟩) n c10) ∧ w'.cell? ⟨g10, k * 8, none⟩ = some (.int .i64 y.f0.f0) ∧ w'.cell? ⟨g10, k * 8 + 1, none⟩ = some (.int .i64 y.f0.f1) ∧ w'.cell? ⟨g10, k * 8 + 2, none⟩ = some (.int .i64 y.f1) ∧ w'.cell? ⟨g10, k * 8 + 3, none⟩ = some (.int .i64 y.f2) ∧ w'.cell? ⟨g10, k * 8 + 4, none⟩ = some (.int .i64 y.f3) ∧ w'.cell? ⟨g10, k * 8 + 5, none⟩ = some (.int .i64 y.f4) ∧ w'.cell? ⟨g10, k * 8 + 6, none⟩ = some (.int .i64 y.f5) ∧ w'.cell? ⟨g10, k * 8 + 7, none⟩ = some (.int .i64 y.f6) ∧ w'.cell? ⟨g3, 0, none⟩ = some (.int .i64 x.f0.f0) ∧ w'.cell? ⟨g3, 1, none⟩ = some (.int .i64 x.f0.f1) ∧ w'.cell? ⟨g3, 2, none⟩ = some (.int .i64 x.f1) ∧ w'.cell? ⟨g3, 3, none⟩ = some (.int .i64 x.f2) ∧ w'.cell? ⟨g3, 4, none⟩ = some (.int .i64 x.f3) ∧ w'.cell? ⟨g3, 5, none⟩ = some (.int .i64 x.f4) ∧ w'.cell? ⟨g3, 6, none⟩ = some (.int .i64 x.f5) ∧ w'.cell? ⟨g3, 7, none⟩ = some (.int .i64 x.f6)) (ds := []) #[false, false, false, false, false, false, false, false] (by kernel_rfl) rfl rfl ⟨rc1, e0, e1, e2, e3, e4, e5, e6, e7, ic0, ic1, ic2, ic3, ic4, ic5, ic6, ic7⟩ (fun hHeld => ?_)
    refine pure_ (i := 0) (N := some 63) (v := ?_) (a' := ?_) #[true, false, false, false, false, false, false, false] rfl rfl (by kernel_rfl) (fun _ _ _ h => h) (Or.inl ⟨by rfl, ?_⟩) ?_ ?_
    rotate_left
    · intro w'
      go_simp
      with_reducible rfl
    rotate_left
    · simp only [Act.put, List.setIfInBounds_toArray, List.set_cons_zero, List.set_cons_succ, i64_w, i32_w]
      rfl
    refine pure_ (i := 2) (N := some 65) (v := ?_) (a' := ?_) #[true, false, true, false, false, false, false, false] rfl rfl (by kernel_rfl) (fun _ _ _ h => h) (Or.inl ⟨by rfl, ?_⟩) ?_ ?_
    rotate_left
    · intro w'
      go_simp
      with_reducible rfl
    rotate_left
    · simp only [Act.put, List.setIfInBounds_toArray, List.set_cons_zero, List.set_cons_succ, i64_w, i32_w]
      rfl
    refine take_ (i := 1) (N := some 64) (v := ?_) (a' := ?_) #[true, true, true, false, false, false, false, false] rfl rfl (by kernel_rfl) (fun _ _ _ h => h) (Or.inl ⟨by rfl, ?_⟩) hHeld ?_ ?_
    rotate_left
    · rintro w' ⟨s0, s1, s2, s3, s4, s5, s6, s7, s8, s9, s10, s11, s12, s13, s14, s15, s16⟩
      go_simp
      with_reducible rfl
    rotate_left
    · simp only [Act.put, List.setIfInBounds_toArray, List.set_cons_zero, List.set_cons_succ, i64_w, i32_w]
      rfl
    refine pure_ (i := 3) (N := some 66) (v := ?_) (a' := ?_) #[true, true, true, true, false, false, false, false] rfl rfl (by kernel_rfl) (fun _ _ _ h => h) (Or.inl ⟨by rfl, ?_⟩) ?_ ?_
    rotate_left
    · intro w'
      go_simp
      with_reducible rfl
    rotate_left
    · simp only [Act.put, List.setIfInBounds_toArray, List.set_cons_zero, List.set_cons_succ, i64_w, i32_w]
      rfl
    refine take_ (i := 4) (N := some 67) (v := ?_) (a' := ?_) #[true, true, true, true, true, false, false, false] rfl rfl (by kernel_rfl) (fun _ _ _ h => h) (Or.inl ⟨by rfl, ?_⟩) hHeld ?_ ?_
    rotate_left
    · rintro w' ⟨s0, s1, s2, s3, s4, s5, s6, s7, s8, s9, s10, s11, s12, s13, s14, s15, s16⟩
      go_simp
      with_reducible rfl
    rotate_left
    · simp only [Act.put, List.setIfInBounds_toArray, List.set_cons_zero, List.set_cons_succ, i64_w, i32_w]
      rfl
    refine take_ (i := 5) (N := some 68) (v := ?_) (a' := ?_) #[true, true, true, true, true, true, false, false] rfl rfl (by kernel_rfl) (fun _ _ _ h => h) (Or.inl ⟨by rfl, ?_⟩) hHeld ?_ ?_
    rotate_left
    · rintro w' ⟨s0, s1, s2, s3, s4, s5, s6, s7, s8, s9, s10, s11, s12, s13, s14, s15, s16⟩
      go_simp
      with_reducible rfl
    rotate_left
    · simp only [Act.put, List.setIfInBounds_toArray, List.set_cons_zero, List.set_cons_succ, i64_w, i32_w]
      rfl
    refine pure_ (i := 6) (N := some 69) (v := ?_) (a' := ?_) #[true, true, true, true, true, true, true, false] rfl rfl (by kernel_rfl) (fun _ _ _ h => h) (Or.inl ⟨by rfl, ?_⟩) ?_ ?_
    rotate_left
    · intro w'
      go_simp
      with_reducible rfl
    rotate_left
    · simp only [Act.put, List.setIfInBounds_toArray, List.set_cons_zero, List.set_cons_succ, i64_w, i32_w]
      rfl
    refine pure_ (i := 7) (N := some 62) (v := ?_) (a' := ?_) #[true, true, true, true, true, true, true, true] rfl rfl (by kernel_rfl) (fun _ _ _ h => h) (Or.inl ⟨by rfl, ?_⟩) ?_ ?_
    rotate_left
    · intro w'
      go_simp
      with_reducible rfl
    rotate_left
    · simp only [Act.put, List.setIfInBounds_toArray, List.set_cons_zero, List.set_cons_succ, i64_w, i32_w]
      rfl
    refine done_ (by kernel_rfl) ?_
    have B14 := Aside0.mk (below_drew B11.out); have K9k := Aside0.mk (blk_drew K9i.out); have K4k := Aside0.mk (blk_drew K4i.out); have K3k := Aside0.mk (blk_drew K3i.out); have O14 := Aside0.mk (Kd.R_drew O11.out)
    clear hb e0 e1 e2 e3 e4 e5 e6 e7 rc0 rf0 rc1 rf1 rc2 rf2 ic0 if0 ic1 if1 ic2 if2 ic3 if3 ic4 if4 ic5 if5 ic6 if6 ic7 if7
    generalize w11.drew = w14 at B14 K9k K4k K3k O14 ⊢
    have rc0 : w14.cell? ⟨g9, 0, none⟩ = some (.int .i64 me) := (blk_cell K9k.out 0).trans rfl; have rf0 := blk_frozen K9k.out 0; have rc1 : w14.cell? ⟨g9, 1, none⟩ = some (.slice (some ⟨g10, 0, none⟩) n c10) := (blk_cell K9k.out 1).trans rfl; have rf1 := blk_frozen K9k.out 1; have rc2 : w14.cell? ⟨g9, 2, none⟩ = some (.slice AO no co) := (blk_cell K9k.out 2).trans rfl; have rf2 := blk_frozen K9k.out 2
    have sc0 : w14.cell? ⟨g4, 0, none⟩ = some (.int .i64 0) := (blk_cell K4k.out 0).trans rfl; have sf0 := blk_frozen K4k.out 0; have sc1 : w14.cell? ⟨g4, 1, none⟩ = some (.slice none 0 0) := (blk_cell K4k.out 1).trans rfl; have sf1 := blk_frozen K4k.out 1; have sc2 : w14.cell? ⟨g4, 2, none⟩ = some (.slice none 0 0) := (blk_cell K4k.out 2).trans rfl; have sf2 := blk_frozen K4k.out 2
    have ic0 : w14.cell? ⟨g3, 0, none⟩ = some (.int .i64 x.f0.f0) := (blk_cell K3k.out 0).trans rfl; have if0 := blk_frozen K3k.out 0; have ic1 : w14.cell? ⟨g3, 1, none⟩ = some (.int .i64 x.f0.f1) := (blk_cell K3k.out 1).trans rfl; have if1 := blk_frozen K3k.out 1; have ic2 : w14.cell? ⟨g3, 2, none⟩ = some (.int .i64 x.f1) := (blk_cell K3k.out 2).trans rfl; have if2 := blk_frozen K3k.out 2; have ic3 : w14.cell? ⟨g3, 3, none⟩ = some (.int .i64 x.f2) := (blk_cell K3k.out 3).trans rfl; have if3 := blk_frozen K3k.out 3; have ic4 : w14.cell? ⟨g3, 4, none⟩ = some (.int .i64 x.f3) := (blk_cell K3k.out 4).trans rfl; have if4 := blk_frozen K3k.out 4; have ic5 : w14.cell? ⟨g3, 5, none⟩ = some (.int .i64 x.f4) := (blk_cell K3k.out 5).trans rfl; have if5 := blk_frozen K3k.out 5; have ic6 : w14.cell? ⟨g3, 6, none⟩ = some (.int .i64 x.f5) := (blk_cell K3k.out 6).trans rfl; have if6 := blk_frozen K3k.out 6; have ic7 : w14.cell? ⟨g3, 7, none⟩ = some (.int .i64 x.f6) := (blk_cell K3k.out 7).trans rfl; have if7 := blk_frozen K3k.out 7
    go_wp2_with fail
    have hset : l.set k x = l := by
      rw [← HXY.out, HY.out, List.getD_eq_getElem?_getD, List.getElem?_eq_getElem (by have := KN.out; have := HNN.out; omega)]
      exact List.set_getElem_self _
    rw [hset]
    refine bodyPost_ret (results_ct rfl _ _ g4 26 #[.int .i64 me, .slice (some ⟨g10, 0, none⟩) n c10, .slice AO no co] (0, 0) _ rfl (blk_put (blk_put (blk_put K4k.out 0 (.int .i64 me) (cs' := #[.int .i64 me, .slice none 0 0, .slice none 0 0]) rfl) 1 (.slice (some ⟨g10, 0, none⟩) n c10) (cs' := #[.int .i64 me, .slice (some ⟨g10, 0, none⟩) n c10, .slice none 0 0]) rfl) 2 (.slice AO no co) (cs' := #[.int .i64 me, .slice (some ⟨g10, 0, none⟩) n c10, .slice AO no co]) rfl) Try.underlying26 rfl (by kernel_rfl)) rfl ?_
    exact ⟨_, _, _, rfl, HNN.out, Kd.R_lower (Kd.R_mono (Kd.R_kept O14.out ((((Kept.refl w14 (fun k => k = g4)).setCell (p := ⟨g4, 0, none⟩) (.inl rfl) (.int .i64 me)).setCell (p := ⟨g4, 1, none⟩) (.inl rfl) (.slice (some ⟨g10, 0, none⟩) n c10)).setCell (p := ⟨g4, 2, none⟩) (.inl rfl) (.slice AO no co)) (fun k hk e => hk.1 e)) (fun _ _ => trivial)) B9.out.size, (below_setB (below_setB (below_setB B14.out (p := ⟨g4, 0, none⟩) G4.out (.int .i64 me)) (p := ⟨g4, 1, none⟩) G4.out (.slice (some ⟨g10, 0, none⟩) n c10)) (p := ⟨g4, 2, none⟩) G4.out (.slice AO no co))⟩
  refine start_ (n := 8) (S := fun w' => w'.cell? ⟨g9, 1, none⟩ = some (.slice (some ⟨g10, 0, none⟩) n c10) ∧ w'.cell? ⟨g10, k * 8, none⟩ = some (.int .i64 y.f0.f0) ∧ w'.cell? ⟨g10, k * 8 + 1, none⟩ = some (.int .i64 y.f0.f1) ∧ w'.cell? ⟨g10, k * 8 + 2, none⟩ = some (.int .i64 y.f1) ∧ w'.cell? ⟨g10, k * 8 + 3, none⟩ = some (.int .i64 y.f2) ∧ w'.cell? ⟨g10, k * 8 + 4, none⟩ = some (.int .i64 y.f3) ∧ w'.cell? ⟨g10, k * 8 + 5, none⟩ = some (.int .i64 y.f4) ∧ w'.cell? ⟨g10, k * 8 + 6, none⟩ = some (.int .i64 y.f5) ∧ w'.cell? ⟨g10, k * 8 + 7, none⟩ = some (.int .i64 y.f6) ∧ w'.cell? ⟨g3, 0, none⟩ = some (.int .i64 x.f0.f0) ∧ w'.cell? ⟨g3, 1, none⟩ = some (.int .i64 x.f0.f1) ∧ w'.cell? ⟨g3, 2, none⟩ = some (.int .i64 x.f1) ∧ w'.cell? ⟨g3, 3, none⟩ = some (.int .i64 x.f2) ∧ w'.cell? ⟨g3, 4, none⟩ = some (.int .i64 x.f3) ∧ w'.cell? ⟨g3, 5, none⟩ = some (.int .i64 x.f4) ∧ w'.cell? ⟨g3, 6, none⟩ = some (.int .i64 x.f5) ∧ w'.cell? ⟨g3, 7, none⟩ = some (.int .i64 x.f6)) (ds := []) #[false, false, false, false, false, false, false, false] (by kernel_rfl) rfl rfl ⟨rc1, e0, e1, e2, e3, e4, e5, e6, e7, ic0, ic1, ic2, ic3, ic4, ic5, ic6, ic7⟩ (fun hHeld => ?_)
  refine pure_ (i := 0) (N := some 63) (v := ?_) (a' := ?_) #[true, false, false, false, false, false, false, false] rfl rfl (by kernel_rfl) (fun _ _ _ h => h) (Or.inl ⟨by rfl, ?_⟩) ?_ ?_
  rotate_left
  · intro w'
    go_simp
    with_reducible rfl
  rotate_left
  · simp only [Act.put, List.setIfInBounds_toArray, List.set_cons_zero, List.set_cons_succ, i64_w, i32_w]
    rfl
  refine pure_ (i := 2) (N := some 65) (v := ?_) (a' := ?_) #[true, false, true, false, false, false, false, false] rfl rfl (by kernel_rfl) (fun _ _ _ h => h) (Or.inl ⟨by rfl, ?_⟩) ?_ ?_
  rotate_left
  · intro w'
    go_simp
    with_reducible rfl
  rotate_left
  · simp only [Act.put, List.setIfInBounds_toArray, List.set_cons_zero, List.set_cons_succ, i64_w, i32_w]
    rfl
  refine take_ (i := 1) (N := some 64) (v := ?_) (a' := ?_) #[true, true, true, false, false, false, false, false] rfl rfl (by kernel_rfl) (fun _ _ _ h => h) (Or.inl ⟨by rfl, ?_⟩) hHeld ?_ ?_
  rotate_left
  · rintro w' ⟨s0, s1, s2, s3, s4, s5, s6, s7, s8, s9, s10, s11, s12, s13, s14, s15, s16⟩
    go_simp
    with_reducible rfl
  rotate_left
  · simp only [Act.put, List.setIfInBounds_toArray, List.set_cons_zero, List.set_cons_succ, i64_w, i32_w]
    rfl
  refine pure_ (i := 3) (N := some 66) (v := ?_) (a' := ?_) #[true, true, true, true, false, false, false, false] rfl rfl (by kernel_rfl) (fun _ _ _ h => h) (Or.inl ⟨by rfl, ?_⟩) ?_ ?_
  rotate_left
  · intro w'
    go_simp
    with_reducible rfl
  rotate_left
  · simp only [Act.put, List.setIfInBounds_toArray, List.set_cons_zero, List.set_cons_succ, i64_w, i32_w]
    rfl
  refine take_ (i := 4) (N := some 67) (v := ?_) (a' := ?_) #[true, true, true, true, true, false, false, false] rfl rfl (by kernel_rfl) (fun _ _ _ h => h) (Or.inl ⟨by rfl, ?_⟩) hHeld ?_ ?_
  rotate_left
  · rintro w' ⟨s0, s1, s2, s3, s4, s5, s6, s7, s8, s9, s10, s11, s12, s13, s14, s15, s16⟩
    go_simp
    with_reducible rfl
  rotate_left
  · simp only [Act.put, List.setIfInBounds_toArray, List.set_cons_zero, List.set_cons_succ, i64_w, i32_w]
    rfl
  refine take_ (i := 5) (N := some 68) (v := ?_) (a' := ?_) #[true, true, true, true, true, true, false, false] rfl rfl (by kernel_rfl) (fun _ _ _ h => h) (Or.inl ⟨by rfl, ?_⟩) hHeld ?_ ?_
  rotate_left
  · rintro w' ⟨s0, s1, s2, s3, s4, s5, s6, s7, s8, s9, s10, s11, s12, s13, s14, s15, s16⟩
    go_simp
    with_reducible rfl
  rotate_left
  · simp only [Act.put, List.setIfInBounds_toArray, List.set_cons_zero, List.set_cons_succ, i64_w, i32_w]
    rfl
  refine pure_ (i := 6) (N := some 69) (v := ?_) (a' := ?_) #[true, true, true, true, true, true, true, false] rfl rfl (by kernel_rfl) (fun _ _ _ h => h) (Or.inl ⟨by rfl, ?_⟩) ?_ ?_
  rotate_left
  · intro w'
    go_simp
    with_reducible rfl
  rotate_left
  · simp only [Act.put, List.setIfInBounds_toArray, List.set_cons_zero, List.set_cons_succ, i64_w, i32_w]
    rfl
  refine pure_ (i := 7) (N := some 62) (v := ?_) (a' := ?_) #[true, true, true, true, true, true, true, true] rfl rfl (by kernel_rfl) (fun _ _ _ h => h) (Or.inl ⟨by rfl, ?_⟩) ?_ ?_
  rotate_left
  · intro w'
    go_simp
    with_reducible rfl
  rotate_left
  · simp only [Act.put, List.setIfInBounds_toArray, List.set_cons_zero, List.set_cons_succ, i64_w, i32_w]
    rfl
  refine done_ (by kernel_rfl) ?_
  have B14 := Aside0.mk (below_drew B11.out); have K9k := Aside0.mk (blk_drew K9i.out); have K4k := Aside0.mk (blk_drew K4i.out); have K3k := Aside0.mk (blk_drew K3i.out); have O14 := Aside0.mk (Kd.R_drew O11.out)
  clear hb e0 e1 e2 e3 e4 e5 e6 e7 rc0 rf0 rc1 rf1 rc2 rf2 ic0 if0 ic1 if1 ic2 if2 ic3 if3 ic4 if4 ic5 if5 ic6 if6 ic7 if7
  generalize w11.drew = w14 at B14 K9k K4k K3k O14 ⊢
  have rc0 : w14.cell? ⟨g9, 0, none⟩ = some (.int .i64 me) := (blk_cell K9k.out 0).trans rfl; have rf0 := blk_frozen K9k.out 0; have rc1 : w14.cell? ⟨g9, 1, none⟩ = some (.slice (some ⟨g10, 0, none⟩) n c10) := (blk_cell K9k.out 1).trans rfl; have rf1 := blk_frozen K9k.out 1; have rc2 : w14.cell? ⟨g9, 2, none⟩ = some (.slice AO no co) := (blk_cell K9k.out 2).trans rfl; have rf2 := blk_frozen K9k.out 2
  have sc0 : w14.cell? ⟨g4, 0, none⟩ = some (.int .i64 0) := (blk_cell K4k.out 0).trans rfl; have sf0 := blk_frozen K4k.out 0; have sc1 : w14.cell? ⟨g4, 1, none⟩ = some (.slice none 0 0) := (blk_cell K4k.out 1).trans rfl; have sf1 := blk_frozen K4k.out 1; have sc2 : w14.cell? ⟨g4, 2, none⟩ = some (.slice none 0 0) := (blk_cell K4k.out 2).trans rfl; have sf2 := blk_frozen K4k.out 2
  have ic0 : w14.cell? ⟨g3, 0, none⟩ = some (.int .i64 x.f0.f0) := (blk_cell K3k.out 0).trans rfl; have if0 := blk_frozen K3k.out 0; have ic1 : w14.cell? ⟨g3, 1, none⟩ = some (.int .i64 x.f0.f1) := (blk_cell K3k.out 1).trans rfl; have if1 := blk_frozen K3k.out 1; have ic2 : w14.cell? ⟨g3, 2, none⟩ = some (.int .i64 x.f1) := (blk_cell K3k.out 2).trans rfl; have if2 := blk_frozen K3k.out 2; have ic3 : w14.cell? ⟨g3, 3, none⟩ = some (.int .i64 x.f2) := (blk_cell K3k.out 3).trans rfl; have if3 := blk_frozen K3k.out 3; have ic4 : w14.cell? ⟨g3, 4, none⟩ = some (.int .i64 x.f3) := (blk_cell K3k.out 4).trans rfl; have if4 := blk_frozen K3k.out 4; have ic5 : w14.cell? ⟨g3, 5, none⟩ = some (.int .i64 x.f4) := (blk_cell K3k.out 5).trans rfl; have if5 := blk_frozen K3k.out 5; have ic6 : w14.cell? ⟨g3, 6, none⟩ = some (.int .i64 x.f5) := (blk_cell K3k.out 6).trans rfl; have if6 := blk_frozen K3k.out 6; have ic7 : w14.cell? ⟨g3, 7, none⟩ = some (.int .i64 x.f6) := (blk_cell K3k.out 7).trans rfl; have if7 := blk_frozen K3k.out 7
  go_wp2_with (first | ((with_reducible refine gate_store (t := 33) (p := 74) (v := .tmp 73) rfl ?_); obtain ⟨oc, hol, -, hoc, -⟩ := Kd.R_elem O14.out z33 (k : Int) (by omega) (by have := KN.out; omega); rw [Int.toNat_natCast] at hoc; refine Kd.R_store k33 (w0 := w14) w9.heap.size rfl rfl 33 (.tmp 74) (.tmp 73) rfl 33 (k : Int) 0 l x (.agg #[.int .i64 x.f0.f0, .int .i64 x.f0.f1, .int .i64 x.f1, .int .i64 x.f2, .int .i64 x.f3, .int .i64 x.f4, .int .i64 x.f5, .int .i64 x.f6]) [.int .i64 x.f0.f0, .int .i64 x.f0.f1, .int .i64 x.f1, .int .i64 x.f2, .int .i64 x.f3, .int .i64 x.f4, .int .i64 x.f5, .int .i64 x.f6] oc (fun k => k ≠ g4 ∧ k ≠ g9) (fun _ => False) rfl ?hoff rfl rfl (by kernel_rfl) ?h1 O14.out (by omega) (by have := KN.out; omega) hol (by rw [Int.toNat_natCast]; exact hoc) (Nat.le_refl 8) ?hM (fun _ h => h.elim) (Below.refl _ _) ?_; (case hoff => rw [Int.toNat_natCast]; first | rfl | (show _ = k * 8 + 0; omega)); (case h1 => intro q hq; simp at hq; rcases hq with rfl | rfl | rfl | rfl | rfl | rfl | rfl | rfl <;> rfl); (case hM => (rw [List.drop_of_length_le (by rw [hol]; exact Nat.le_refl 8), List.take_zero, List.nil_append, List.append_nil]; exact k33_mkM _ _ _ x)); intro w15 hO hb hg; rw [Int.toNat_natCast] at hO; have B15 := Aside0.mk (B14.out.trans (hb.mono B9.out.size)); have K9m := Aside0.mk (blk_grown K9k.out hg (fun e => by injection e with e; have := G10.out; have := blk_lt K9.out; omega)); have K4m := Aside0.mk (blk_grown K4k.out hg (fun e => by injection e with e; have := G10.out; have := blk_lt K4g.out; omega)); have O15 := Aside0.mk hO; clear hb hg hO hol hoc rc0 rf0 rc1 rf1 rc2 rf2 ic0 if0 ic1 if1 ic2 if2 ic3 if3 ic4 if4 ic5 if5 ic6 if6 ic7 if7; have rc0 : w15.cell? ⟨g9, 0, none⟩ = some (.int .i64 me) := (blk_cell K9m.out 0).trans rfl; have rf0 := blk_frozen K9m.out 0; have rc1 : w15.cell? ⟨g9, 1, none⟩ = some (.slice (some ⟨g10, 0, none⟩) n c10) := (blk_cell K9m.out 1).trans rfl; have rf1 := blk_frozen K9m.out 1; have rc2 : w15.cell? ⟨g9, 2, none⟩ = some (.slice AO no co) := (blk_cell K9m.out 2).trans rfl; have rf2 := blk_frozen K9m.out 2; have sc0 : w15.cell? ⟨g4, 0, none⟩ = some (.int .i64 0) := (blk_cell K4m.out 0).trans rfl; have sf0 := blk_frozen K4m.out 0; have sc1 : w15.cell? ⟨g4, 1, none⟩ = some (.slice none 0 0) := (blk_cell K4m.out 1).trans rfl; have sf1 := blk_frozen K4m.out 1; have sc2 : w15.cell? ⟨g4, 2, none⟩ = some (.slice none 0 0) := (blk_cell K4m.out 2).trans rfl; have sf2 := blk_frozen K4m.out 2))
  refine bodyPost_ret (results_ct rfl _ _ g4 26 #[.int .i64 me, .slice (some ⟨g10, 0, none⟩) n c10, .slice AO no co] (0, 0) _ rfl (blk_put (blk_put (blk_put K4m.out 0 (.int .i64 me) (cs' := #[.int .i64 me, .slice none 0 0, .slice none 0 0]) rfl) 1 (.slice (some ⟨g10, 0, none⟩) n c10) (cs' := #[.int .i64 me, .slice (some ⟨g10, 0, none⟩) n c10, .slice none 0 0]) rfl) 2 (.slice AO no co) (cs' := #[.int .i64 me, .slice (some ⟨g10, 0, none⟩) n c10, .slice AO no co]) rfl) Try.underlying26 rfl (by kernel_rfl)) rfl ?_
  exact ⟨_, _, _, rfl, by rw [List.length_set]; exact HNN.out, Kd.R_lower (Kd.R_mono (Kd.R_kept O15.out ((((Kept.refl w15 (fun k => k = g4)).setCell (p := ⟨g4, 0, none⟩) (.inl rfl) (.int .i64 me)).setCell (p := ⟨g4, 1, none⟩) (.inl rfl) (.slice (some ⟨g10, 0, none⟩) n c10)).setCell (p := ⟨g4, 2, none⟩) (.inl rfl) (.slice AO no co)) (fun k hk e => hk.1 e)) (fun _ _ => trivial)) B9.out.size, (below_setB (below_setB (below_setB B15.out (p := ⟨g4, 0, none⟩) G4.out (.int .i64 me)) (p := ⟨g4, 1, none⟩) G4.out (.slice (some ⟨g10, 0, none⟩) n c10)) (p := ⟨g4, 2, none⟩) G4.out (.slice AO no co))⟩
/-- a book that an item is put into -/
theorem put_calls {me : Int} {A AO : Option Addr} {n c no co : Nat} {l : List S33} {x : S33} {w : World} (hn : n = l.length) (hC : Kd.C k33 w A l.length l) (hs : SortI l) (hl : n ≤ 1023) (hch : ChkOK x) (hme : x.f0.f0 = me ∨ x.f1 = me) :
    Calls Try.prog 7 #[.agg #[.int .i64 me, .slice A n c, .slice AO no co], itV x] w fun r w' => ∃ A' n' c', r = .returned (.tuple #[.agg #[.int .i64 me, .slice A' n' c', .slice AO no co], .int .i64 0]) ∧ n' = (putI l x).length ∧ Kd.R k33 33 w' w.heap.size (fun _ => True) (.slice A' n' c') (putI l x) ∧ Below w.heap.size w w' := by
  by_cases h : x.f0.f0 = me
  · cases hth : thereI l x.f0
    · exact put_new_a hn hC hs hl hch h hth
    · exact put_old_a hn hC hs hl hch h hth
  · have h2 : x.f1 = me := hme.resolve_left h
    cases hth : thereI l x.f0
    · exact put_new_b hn hC hs hl hch h h2 hth
    · exact put_old_b hn hC hs hl hch h h2 hth
end Go.Proofs.Ytianljjmnpdkcaa.M
