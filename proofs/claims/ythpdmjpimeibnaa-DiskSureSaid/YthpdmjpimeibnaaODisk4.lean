/-
  What a disk's methods come to (a crash, up again).
-/
import Derived.Test.YthpdmjpimeibnaaODisk3
namespace Go.Proofs.Ythpdmjpimeibnaa.M
open Go.RowKit Go.Proofs.YthpdmjpimeibnaaW.PrintWords Go.Proofs.YthpdmjpimeibnaaW.PrintLast Go.Proofs.YthpdmjpimeibnaaW.PrintMore
set_option linter.unusedVariables false
set_option linter.unusedSimpArgs false
attribute [local go_sem] max2_int min2_int max_two min_two   -- for this text alone
theorem IsD.opened {P : Nat → Prop} {w : World} {g : Nat} {d : DS} (h : IsD P w g d) : ∃ As cs Aa ca, w.heap[g]? = some (.cells #[.int .i64 d.room, .slice As d.sure.length cs, .slice Aa d.all.length ca, .bool d.renew, .bool d.down, .int .i64 d.fuse] 70 (0, 0)) ∧ P g ∧
    Kd.R (Kd.int .u8) 5 w 0 (fun k => P k ∧ some k ≠ (Value.slice Aa d.all.length ca).ownBlock) (.slice As d.sure.length cs) d.sure ∧ Kd.R (Kd.int .u8) 5 w 0 (fun k => P k ∧ some k ≠ (Value.slice As d.sure.length cs).ownBlock) (.slice Aa d.all.length ca) d.all := by
  obtain ⟨vs, va, hcells, hP, hS, hA⟩ := h
  obtain ⟨As, cs, rfl⟩ := Kd.R_slice hS
  obtain ⟨Aa, ca, rfl⟩ := Kd.R_slice hA
  exact ⟨As, cs, Aa, ca, hcells, hP, hS, hA⟩
/-- an element of what is there is written -/
theorem IsD.putAll {P : Nat → Prop} {w : World} {g gb n c : Nat} {d : DS} (h : IsD P w g d) (hc : w.cell? ⟨g, 2, none⟩ = some (.slice (some ⟨gb, 0, none⟩) n c)) (j : Nat) (x : Int) :
    IsD P (w.setCell ⟨gb, j, none⟩ (.int .u8 x)) g { d with all := d.all.set j x } ∧ P gb := by
  obtain ⟨vs, va, h1, h2, h3, h4⟩ := h
  have e : w.cell? ⟨g, 2, none⟩ = some va := (blk_cell h1 2).trans rfl
  rw [e] at hc
  injection hc with hc
  subst hc
  have hne : g ≠ gb := fun e => by have := Kd.R_ne h4 h1 (by decide); exact this (by rw [e]; rfl)
  have h5 := Kd.R_putg h4 (j : Int) x
  rw [Int.toNat_natCast] at h5
  exact ⟨⟨vs, _, (Below.heap_setCell w ⟨gb, j, none⟩ (.int .u8 x) g hne).trans h1, h2, Kd.R_far h3 (p := ⟨gb, j, none⟩) (fun k hk e => hk.2 (by rw [e]; rfl)) _, h5.1⟩, (h4.1 gb rfl).1⟩
def DS.torn (d : DS) (keep : Int) : Nat := d.sure.length + (max 0 (min keep ((d.all.length : Int) - d.sure.length))).toNat
def DS.crash (d : DS) (keep turn : Int) : DS :=
  if d.renew = true then { d with all := d.sure, renew := false, down := true, fuse := -1 }
  else if d.torn keep > d.sure.length then { d with all := (d.all.take (d.torn keep)).set (d.torn keep - 1) (Go.bits .xor .u8 (rd (d.all.take (d.torn keep)) ((d.torn keep - 1 : Nat) : Int)) turn), down := true, fuse := -1 }
  else { d with all := d.all.take (d.torn keep), down := true, fuse := -1 }
set_option maxHeartbeats 4000000 in
set_option maxRecDepth 100000 in
theorem d_Crash {P : Nat → Prop} {w : World} {g : Nat} {d : DS} {keep turn : Int} (h : IsD P w g d) (ho : d.Ok) (hpre : d.renew = false → d.sure.length ≤ d.all.length) (ht : 0 ≤ turn ∧ turn < 256) :
    Calls Try.prog 16 #[.pointer (some ⟨g, 0, none⟩), .int .i64 keep, .int .u8 turn] w fun x w' => x = .returned (.tuple #[]) ∧ IsD (fun k => P k ∨ w.heap.size ≤ k) w' g (d.crash keep turn) ∧ Kept w w' P ∧ Below 0 w w' := by
  have ho_ := Aside0.mk ho
  have HAl := Aside0.mk (show d.all.length ≤ 4194304 ∧ d.sure.length ≤ 4194304 by have := ho.room1; have := ho.all_; have := ho.sure_; omega)
  have D0 := Aside0.mk h
  have HB := Aside0.mk (below0 (Below.refl w.heap.size w)); have HK := Aside0.mk (Kept.refl w P)
  obtain ⟨vs, va, hcells, hP, hS, hA⟩ := h
  obtain ⟨As, cs, rfl⟩ := Kd.R_slice hS
  obtain ⟨Aa, ca, rfl⟩ := Kd.R_slice hA
  have PG := Aside0.mk hP; have HS := Aside0.mk hS; have HA := Aside0.mk hA; have HC := Aside0.mk hcells
  have hc4 : w.cell? ⟨g, 4, none⟩ = some (.bool d.down) := (blk_cell hcells 4).trans rfl; have hcf4 := blk_frozen hcells 4; have hc5 : w.cell? ⟨g, 5, none⟩ = some (.int .i64 d.fuse) := (blk_cell hcells 5).trans rfl; have hcf5 := blk_frozen hcells 5
  clear hcells hP hS hA

  unfold DS.crash
  by_cases hr : d.renew = true
  · rw [if_pos hr]
    have hr1 := Aside0.mk hr
    clear hpre ho hr ht
    go_enter Try.func16, Try.ntmps16
    go_wp2_with (first | ((with_reducible refine gate_dst (N := 14) rfl ?_); have D1 := Aside0.mk ((D0.out.setDown true).setFuse (-1)); have K1 := Aside0.mk (kept_set (kept_set HK.out PG.out 4 (.bool true)) PG.out 5 (.int .i64 (-1))); have B1 := Aside0.mk (below0_set (below0_set HB.out ⟨g, 4, none⟩ (.bool true)) ⟨g, 5, none⟩ (.int .i64 (-1))); have S1 := Aside0.mk (show ((w.setCell ⟨g, 4, none⟩ (.bool true)).setCell ⟨g, 5, none⟩ (.int .i64 (-1))).heap.size = w.heap.size by simp [World.setCell]); clear D0 HS HA HC PG hc4 hcf4 hc5 hcf5; generalize ((w.setCell ⟨g, 4, none⟩ (.bool true)).setCell ⟨g, 5, none⟩ (.int .i64 (-1))) = w1 at D1 K1 B1 S1 ⊢; obtain ⟨As, cs, Aa, ca, hcells, hP, hS, hA⟩ := D1.out.opened; have PG := Aside0.mk hP; have HC := Aside0.mk hcells; have HS := Aside0.mk hS; have HA := Aside0.mk hA; have hq3 : w1.cell? ⟨g, 3, none⟩ = some (.bool d.renew) := (blk_cell hcells 3).trans rfl; have hq1 : w1.cell? ⟨g, 1, none⟩ = some (.slice As d.sure.length cs) := (blk_cell hcells 1).trans rfl; have hqf1 := blk_frozen hcells 1; have hq2 : w1.cell? ⟨g, 2, none⟩ = some (.slice Aa d.all.length ca) := (blk_cell hcells 2).trans rfl; have hqf2 := blk_frozen hcells 2; rw [hr1.out] at hq3; clear hcells hP hS hA) | ((with_reducible refine gate_dst (N := 19) rfl ?_); refine Kd.R_lit (Kd.int .u8) _ 5 ?hg (N := 19) ?hd (xs := ([] : List Int)) (inner := []) (ok := fun _ => True) (okp := fun _ => True) ?hr ?hp (fun _ hk => hk) trivial (Below.refl _ _) (Nat.le_refl _) (by simp) ?_; (case hd => rfl); (case hg => rfl); (case hr => first | (go_simp; done) | (go_simp; rfl)); (case hp => exact (Reps.none _ _)); intro vL wL hoL hbL hg_ hnew_; clear hg_ hnew_; have BL := Aside0.mk hbL; have OL := Aside0.mk hoL; have DL := Aside0.mk (D1.out.below hbL); have CL := Aside0.mk (Kd.C_below (Kd.R_reads' HS.out).2.2 hbL); have hcL := blk_below HC.out hbL; have hl1 : wL.cell? ⟨g, 1, none⟩ = some (.slice As d.sure.length cs) := (blk_cell hcL 1).trans rfl; have hlf1 := blk_frozen hcL 1; have hl2 : wL.cell? ⟨g, 2, none⟩ = some (.slice Aa d.all.length ca) := (blk_cell hcL 2).trans rfl; have hlf2 := blk_frozen hcL 2; have hl3 : wL.cell? ⟨g, 3, none⟩ = some (.bool d.renew) := (blk_cell hcL 3).trans rfl; have hlf3 := blk_frozen hcL 3; clear hcL hbL hoL) | ((with_reducible refine gate_builtin (b := .append) (xs := #[.tmp 19, .tmp 23]) rfl ?_); at_builtin; refine Kd.R_append_rows (Kd.int .u8) (w0 := w1) w1.heap.size rfl (.tmp 19) (.tmp 23) 22 5 (.int .u8 0) 1 rfl Try.underlying22 info5 rfl (by decide) (by omega) (vL) ([]) (d.sure) _ _ _ (fun _ => True) (fun _ => False) rfl rfl ?aO ?aR (fun _ _ h => h) (fun _ h => h.elim) ?aF ?aB ?aS ?aL ?_; (case aR => exact CL.out); (case aB => exact BL.out); (case aF => exact (fun _ _ => trivial)); (case aO => exact OL.out); (case aS => exact (BL.out).size); (case aL => (have := HAl.out; simp only [List.length_nil]; omega)); intro v2 w2 ho hb hg hat; clear hg hat; rw [List.nil_append] at ho; obtain ⟨A2, c2, e2_⟩ := Kd.R_slice ho; subst e2_; have B2 := Aside0.mk hb; have O2 := Aside0.mk ho; have hc2 := blk_below HC.out hb; have hm1 : w2.cell? ⟨g, 1, none⟩ = some (.slice As d.sure.length cs) := (blk_cell hc2 1).trans rfl; have hmf1 := blk_frozen hc2 1; have hm2 : w2.cell? ⟨g, 2, none⟩ = some (.slice Aa d.all.length ca) := (blk_cell hc2 2).trans rfl; have hmf2 := blk_frozen hc2 2; have hm3 : w2.cell? ⟨g, 3, none⟩ = some (.bool d.renew) := (blk_cell hc2 3).trans rfl; have hmf3 := blk_frozen hc2 3; clear hc2 hb ho))
    ((try simp only [Exit.inBlock, Exit.then]); refine bodyPost_ret (results_none rfl _ _ _) rfl ?_)
    exact ⟨rfl, ((D1.out.newAll O2.out B2.out).setRenew false).mono (fun k hk => hk.imp id (fun q => by rw [← S1.out]; exact q)), kept_set (kept_set (K1.out.then_ (new_kept P B2.out) (fun k hk => .inl hk)) PG.out 2 _) PG.out 3 _, below0_set (below0_set (Below.trans B1.out (below0 B2.out)) _ _) _ _⟩
  · rw [if_neg hr]
    have hr1 := Aside0.mk (show d.renew = false by simpa using hr)
    have hpr := hpre hr1.out
    have hn : d.torn keep ≤ d.all.length := by unfold DS.torn; omega
    have hn0 : d.sure.length ≤ d.torn keep := by unfold DS.torn; omega
    have e1 : wrap64 ((d.all.length : Int) - (d.sure.length : Int)) = (d.all.length : Int) - d.sure.length := by have := HAl.out; unfold wrap64; omega
    have e2 : wrap64 ((d.sure.length : Int) + mx 0 (mn keep ((d.all.length : Int) - d.sure.length))) = ((d.torn keep : Nat) : Int) := by
      have := HAl.out
      have e3 : mx 0 (mn keep ((d.all.length : Int) - d.sure.length)) = max 0 (min keep ((d.all.length : Int) - d.sure.length)) := by unfold mx mn; omega
      rw [e3]; unfold DS.torn wrap64; omega
    unfold mx mn at e2
    obtain ⟨n, hN⟩ : ∃ n, n = d.torn keep := ⟨_, rfl⟩
    rw [← hN] at e2 hn hn0 ⊢
    have E2 := Aside0.mk e2
    clear e2
    have HN := Aside0.mk hn; have HN0 := Aside0.mk hn0; have HT := Aside0.mk ht
    clear hpre ho hr ht hpr hn hn0 hN
    obtain ⟨i0, hi0, _, hsz0, _⟩ := info_parts info5
    by_cases hgt : n > d.sure.length
    · rw [if_pos hgt]
      have g1 : decide ((n : Int) > (d.sure.length : Int)) = true := decide_eq_true (by omega)
      have g2 : decide ((d.sure.length : Int) < (n : Int)) = true := decide_eq_true (by omega)
      have g3 : decide (d.sure.length < n) = true := decide_eq_true (by omega)
      have g4 := eq_true (show d.sure.length < n by omega)
      have HG := Aside0.mk hgt
      have e5 : wrap64 ((n : Int) - 1) = ((n - 1 : Nat) : Int) := by have := HAl.out; have := HN.out; unfold wrap64; omega
      clear hgt
      go_enter Try.func16, Try.ntmps16
      go_wp2_with (first | ((with_reducible refine gate_dst (N := 14) rfl ?_); have D1 := Aside0.mk ((D0.out.setDown true).setFuse (-1)); have K1 := Aside0.mk (kept_set (kept_set HK.out PG.out 4 (.bool true)) PG.out 5 (.int .i64 (-1))); have B1 := Aside0.mk (below0_set (below0_set HB.out ⟨g, 4, none⟩ (.bool true)) ⟨g, 5, none⟩ (.int .i64 (-1))); have S1 := Aside0.mk (show ((w.setCell ⟨g, 4, none⟩ (.bool true)).setCell ⟨g, 5, none⟩ (.int .i64 (-1))).heap.size = w.heap.size by simp [World.setCell]); clear D0 HS HA HC PG hc4 hcf4 hc5 hcf5; generalize ((w.setCell ⟨g, 4, none⟩ (.bool true)).setCell ⟨g, 5, none⟩ (.int .i64 (-1))) = w1 at D1 K1 B1 S1 ⊢; obtain ⟨As, cs, Aa, ca, hcells, hP, hS, hA⟩ := D1.out.opened; have PG := Aside0.mk hP; have HC := Aside0.mk hcells; have HS := Aside0.mk hS; have HA := Aside0.mk hA; have hq3 : w1.cell? ⟨g, 3, none⟩ = some (.bool d.renew) := (blk_cell hcells 3).trans rfl; have hq1 : w1.cell? ⟨g, 1, none⟩ = some (.slice As d.sure.length cs) := (blk_cell hcells 1).trans rfl; have hqf1 := blk_frozen hcells 1; have hq2 : w1.cell? ⟨g, 2, none⟩ = some (.slice Aa d.all.length ca) := (blk_cell hcells 2).trans rfl; have hqf2 := blk_frozen hcells 2; rw [hr1.out] at hq3; clear hcells hP hS hA))
      repeat (go_quiet (first | fail))
      rw [e1, E2.out]
      generalize (if (d.all.length : Int) - (d.sure.length : Int) < keep then (d.all.length : Int) - (d.sure.length : Int) else keep) = z1
      generalize (if 0 < z1 then z1 else 0) = z2
      have D3 := Aside0.mk (D1.out.below (pw_below_drewN (Below.refl w1.heap.size w1) nq))
      have K3 := Aside0.mk (K1.out.drewN nq)
      have B3 := Aside0.mk (Below.trans B1.out (pw_below_drewN (Below.refl 0 w1) nq))
      have S3 := Aside0.mk (show (w1.drewN nq).heap.size = w.heap.size from S1.out)
      have HC3 := Aside0.mk (blk_drewN HC.out nq)
      have CA3 := Aside0.mk (Kd.C_drewN (Kd.R_reads' HA.out).2.2 nq)
      have hcA := (Kd.R_reads' HA.out).2.1
      clear D1 K1 B1 S1 HC HS HA hq1 hqf1 hq2 hqf2 hq3 e1
      generalize w1.drewN nq = w3 at D3 K3 B3 S3 HC3 CA3 ⊢
      obtain ⟨hcut, hcr, hcl⟩ := print_take_int (P := Try.prog) (k := .u8) 22 5 Try.underlying22 hi0 hsz0 Aa ca d.all (n : Int) (by omega) (by have := HN.out; omega) hcA
      have hcr := Aside0.mk hcr
      clear hcl hcA hi0 hsz0
      rw [Int.toNat_natCast] at hcut hcr
      have HTL := Aside0.mk (show min n d.all.length = n by have := HN.out; omega)
      go_wp2_with (first | ((with_reducible refine gate_dst (N := 50) rfl ?_); refine Kd.R_lit (Kd.int .u8) _ 5 ?hg (N := 50) ?hd (xs := ([] : List Int)) (inner := []) (ok := fun _ => True) (okp := fun _ => True) ?hr ?hp (fun _ hk => hk) trivial (Below.refl _ _) (Nat.le_refl _) (by simp) ?_; (case hd => rfl); (case hg => rfl); (case hr => first | (go_simp; done) | (go_simp; rfl)); (case hp => exact (Reps.none _ _)); intro vL wL hoL hbL hg_ hnew_; clear hg_ hnew_; have BL := Aside0.mk hbL; have OL := Aside0.mk hoL; have DL := Aside0.mk (D3.out.below hbL); have CL := Aside0.mk (Kd.C_of_reads (h1 := fun _ => rfl) (hcr.out _ (Kd.reads_of_C (Kd.C_below CA3.out hbL)))); have hcL := blk_below HC3.out hbL; have hl1 : wL.cell? ⟨g, 1, none⟩ = some (.slice As d.sure.length cs) := (blk_cell hcL 1).trans rfl; have hlf1 := blk_frozen hcL 1; have hl2 : wL.cell? ⟨g, 2, none⟩ = some (.slice Aa d.all.length ca) := (blk_cell hcL 2).trans rfl; have hlf2 := blk_frozen hcL 2; clear hcL hbL hoL) | ((with_reducible refine gate_builtin (b := .append) (xs := #[.tmp 50, .tmp 56]) rfl ?_); at_builtin; refine Kd.R_append_rows (Kd.int .u8) (w0 := w3) w3.heap.size rfl (.tmp 50) (.tmp 56) 22 5 (.int .u8 0) 1 rfl Try.underlying22 info5 rfl (by decide) (by omega) (vL) ([]) (d.all.take n) _ _ _ (fun _ => True) (fun _ => False) rfl rfl ?aO ?aR (fun _ _ h => h) (fun _ h => h.elim) ?aF ?aB ?aS ?aL ?_; (case aR => exact (by have e_ : min n d.all.length = (d.all.take n).length := List.length_take.symm; rw [e_]; exact CL.out)); (case aB => exact BL.out); (case aF => exact (fun _ _ => trivial)); (case aO => exact OL.out); (case aS => exact (BL.out).size); (case aL => (have := HAl.out; have e_ := @List.length_take _ n d.all; simp only [List.length_nil]; omega)); intro v2 w2 ho hb hg hat; clear hg hat; rw [List.nil_append] at ho; obtain ⟨A2, c2, e2_⟩ := Kd.R_slice ho; subst e2_; have B2 := Aside0.mk hb; have O2 := Aside0.mk ho; have hc2 := blk_below HC3.out hb; have hm1 : w2.cell? ⟨g, 1, none⟩ = some (.slice As d.sure.length cs) := (blk_cell hc2 1).trans rfl; have hmf1 := blk_frozen hc2 1; have hm2 : w2.cell? ⟨g, 2, none⟩ = some (.slice Aa d.all.length ca) := (blk_cell hc2 2).trans rfl; have hmf2 := blk_frozen hc2 2; clear hc2 hb ho) | ((with_reducible refine gate_dst (N := 62) rfl ?_); have D4 := Aside0.mk (D3.out.newAll O2.out B2.out); have K4 := Aside0.mk (kept_set (K3.out.then_ (new_kept P B2.out) (fun k hk => .inl hk)) PG.out 2 (.slice A2 (d.all.take n).length c2)); have B4 := Aside0.mk (below0_set (Below.trans B3.out (below0 B2.out)) ⟨g, 2, none⟩ (.slice A2 (d.all.take n).length c2)); have O4 := Aside0.mk (Kd.R_set O2.out (blk_below HC3.out B2.out) ne70 2 (.slice A2 (d.all.take n).length c2)); have HC4 := Aside0.mk (blk_put (blk_below HC3.out B2.out) 2 (.slice A2 (d.all.take n).length c2) rfl); clear hm1 hmf1 hm2 hmf2 D3 K3 B3 O2 HC3; rw [List.length_take, HTL.out] at D4 K4 B4 O4 HC4; rw [HTL.out]; generalize (w2.setCell ⟨g, 2, none⟩ (.slice A2 n c2)) = w4 at D4 K4 B4 O4 HC4 ⊢; have hv1 : w4.cell? ⟨g, 1, none⟩ = some (.slice As d.sure.length cs) := (blk_cell HC4.out 1).trans rfl; have hv2 : w4.cell? ⟨g, 2, none⟩ = some (.slice A2 n c2) := (blk_cell HC4.out 2).trans rfl; obtain ⟨gb, cb, eb, -, -, -⟩ := Kd.R_form O4.out (by rw [List.length_take, HTL.out]; have := HG.out; omega); injection eb with ea_ en_ ec_; subst ea_; subst ec_; clear en_; obtain ⟨hx, hf⟩ := Kd.R_celln 0 O4.out ((n - 1 : Nat) : Int) (by omega) (by have := HG.out; omega); rw [Int.toNat_natCast] at hx hf; have q1 := eq_true (show (0 : Int) ≤ ((n - 1 : Nat) : Int) by omega); have q2 := eq_true (show ((n - 1 : Nat) : Int) < (n : Int) by have := HG.out; omega)))
      go_end0
      have Q := D4.out.putAll hv2 (n - 1) (Go.bits .xor .u8 (rd (d.all.take n) ((n - 1 : Nat) : Int)) turn)
      exact ⟨rfl, Q.1.mono (fun k hk => hk.imp id (fun q => by rw [← S3.out]; exact q)), K4.out.setCell (p := ⟨gb, n - 1, none⟩) (Q.2.imp id (fun q => by rw [← S3.out]; exact q)) _, below0_set B4.out _ _⟩
    · rw [if_neg hgt]
      have g1 : decide ((n : Int) > (d.sure.length : Int)) = false := decide_eq_false (by omega)
      have g2 : decide ((d.sure.length : Int) < (n : Int)) = false := decide_eq_false (by omega)
      have g3 : decide (d.sure.length < n) = false := decide_eq_false (by omega)
      have g4 := eq_false (show ¬ d.sure.length < n by omega)
      clear hgt
      go_enter Try.func16, Try.ntmps16
      go_wp2_with (first | ((with_reducible refine gate_dst (N := 14) rfl ?_); have D1 := Aside0.mk ((D0.out.setDown true).setFuse (-1)); have K1 := Aside0.mk (kept_set (kept_set HK.out PG.out 4 (.bool true)) PG.out 5 (.int .i64 (-1))); have B1 := Aside0.mk (below0_set (below0_set HB.out ⟨g, 4, none⟩ (.bool true)) ⟨g, 5, none⟩ (.int .i64 (-1))); have S1 := Aside0.mk (show ((w.setCell ⟨g, 4, none⟩ (.bool true)).setCell ⟨g, 5, none⟩ (.int .i64 (-1))).heap.size = w.heap.size by simp [World.setCell]); clear D0 HS HA HC PG hc4 hcf4 hc5 hcf5; generalize ((w.setCell ⟨g, 4, none⟩ (.bool true)).setCell ⟨g, 5, none⟩ (.int .i64 (-1))) = w1 at D1 K1 B1 S1 ⊢; obtain ⟨As, cs, Aa, ca, hcells, hP, hS, hA⟩ := D1.out.opened; have PG := Aside0.mk hP; have HC := Aside0.mk hcells; have HS := Aside0.mk hS; have HA := Aside0.mk hA; have hq3 : w1.cell? ⟨g, 3, none⟩ = some (.bool d.renew) := (blk_cell hcells 3).trans rfl; have hq1 : w1.cell? ⟨g, 1, none⟩ = some (.slice As d.sure.length cs) := (blk_cell hcells 1).trans rfl; have hqf1 := blk_frozen hcells 1; have hq2 : w1.cell? ⟨g, 2, none⟩ = some (.slice Aa d.all.length ca) := (blk_cell hcells 2).trans rfl; have hqf2 := blk_frozen hcells 2; rw [hr1.out] at hq3; clear hcells hP hS hA))
      repeat (go_quiet (first | fail))
      rw [e1, E2.out]
      generalize (if (d.all.length : Int) - (d.sure.length : Int) < keep then (d.all.length : Int) - (d.sure.length : Int) else keep) = z1
      generalize (if 0 < z1 then z1 else 0) = z2
      have D3 := Aside0.mk (D1.out.below (pw_below_drewN (Below.refl w1.heap.size w1) nq))
      have K3 := Aside0.mk (K1.out.drewN nq)
      have B3 := Aside0.mk (Below.trans B1.out (pw_below_drewN (Below.refl 0 w1) nq))
      have S3 := Aside0.mk (show (w1.drewN nq).heap.size = w.heap.size from S1.out)
      have HC3 := Aside0.mk (blk_drewN HC.out nq)
      have CA3 := Aside0.mk (Kd.C_drewN (Kd.R_reads' HA.out).2.2 nq)
      have hcA := (Kd.R_reads' HA.out).2.1
      clear D1 K1 B1 S1 HC HS HA hq1 hqf1 hq2 hqf2 hq3 e1
      generalize w1.drewN nq = w3 at D3 K3 B3 S3 HC3 CA3 ⊢
      obtain ⟨hcut, hcr, hcl⟩ := print_take_int (P := Try.prog) (k := .u8) 22 5 Try.underlying22 hi0 hsz0 Aa ca d.all (n : Int) (by omega) (by have := HN.out; omega) hcA
      have hcr := Aside0.mk hcr
      clear hcl hcA hi0 hsz0
      rw [Int.toNat_natCast] at hcut hcr
      have HTL := Aside0.mk (show min n d.all.length = n by have := HN.out; omega)
      go_wp2_with (first | ((with_reducible refine gate_dst (N := 50) rfl ?_); refine Kd.R_lit (Kd.int .u8) _ 5 ?hg (N := 50) ?hd (xs := ([] : List Int)) (inner := []) (ok := fun _ => True) (okp := fun _ => True) ?hr ?hp (fun _ hk => hk) trivial (Below.refl _ _) (Nat.le_refl _) (by simp) ?_; (case hd => rfl); (case hg => rfl); (case hr => first | (go_simp; done) | (go_simp; rfl)); (case hp => exact (Reps.none _ _)); intro vL wL hoL hbL hg_ hnew_; clear hg_ hnew_; have BL := Aside0.mk hbL; have OL := Aside0.mk hoL; have DL := Aside0.mk (D3.out.below hbL); have CL := Aside0.mk (Kd.C_of_reads (h1 := fun _ => rfl) (hcr.out _ (Kd.reads_of_C (Kd.C_below CA3.out hbL)))); have hcL := blk_below HC3.out hbL; have hl1 : wL.cell? ⟨g, 1, none⟩ = some (.slice As d.sure.length cs) := (blk_cell hcL 1).trans rfl; have hlf1 := blk_frozen hcL 1; have hl2 : wL.cell? ⟨g, 2, none⟩ = some (.slice Aa d.all.length ca) := (blk_cell hcL 2).trans rfl; have hlf2 := blk_frozen hcL 2; clear hcL hbL hoL) | ((with_reducible refine gate_builtin (b := .append) (xs := #[.tmp 50, .tmp 56]) rfl ?_); at_builtin; refine Kd.R_append_rows (Kd.int .u8) (w0 := w3) w3.heap.size rfl (.tmp 50) (.tmp 56) 22 5 (.int .u8 0) 1 rfl Try.underlying22 info5 rfl (by decide) (by omega) (vL) ([]) (d.all.take n) _ _ _ (fun _ => True) (fun _ => False) rfl rfl ?aO ?aR (fun _ _ h => h) (fun _ h => h.elim) ?aF ?aB ?aS ?aL ?_; (case aR => exact (by have e_ : min n d.all.length = (d.all.take n).length := List.length_take.symm; rw [e_]; exact CL.out)); (case aB => exact BL.out); (case aF => exact (fun _ _ => trivial)); (case aO => exact OL.out); (case aS => exact (BL.out).size); (case aL => (have := HAl.out; have e_ := @List.length_take _ n d.all; simp only [List.length_nil]; omega)); intro v2 w2 ho hb hg hat; clear hg hat; rw [List.nil_append] at ho; obtain ⟨A2, c2, e2_⟩ := Kd.R_slice ho; subst e2_; have B2 := Aside0.mk hb; have O2 := Aside0.mk ho; have hc2 := blk_below HC3.out hb; have hm1 : w2.cell? ⟨g, 1, none⟩ = some (.slice As d.sure.length cs) := (blk_cell hc2 1).trans rfl; have hmf1 := blk_frozen hc2 1; have hm2 : w2.cell? ⟨g, 2, none⟩ = some (.slice Aa d.all.length ca) := (blk_cell hc2 2).trans rfl; have hmf2 := blk_frozen hc2 2; clear hc2 hb ho) | ((with_reducible refine gate_dst (N := 62) rfl ?_); have D4 := Aside0.mk (D3.out.newAll O2.out B2.out); have K4 := Aside0.mk (kept_set (K3.out.then_ (new_kept P B2.out) (fun k hk => .inl hk)) PG.out 2 (.slice A2 (d.all.take n).length c2)); have B4 := Aside0.mk (below0_set (Below.trans B3.out (below0 B2.out)) ⟨g, 2, none⟩ (.slice A2 (d.all.take n).length c2)); have O4 := Aside0.mk (Kd.R_set O2.out (blk_below HC3.out B2.out) ne70 2 (.slice A2 (d.all.take n).length c2)); have HC4 := Aside0.mk (blk_put (blk_below HC3.out B2.out) 2 (.slice A2 (d.all.take n).length c2) rfl); clear hm1 hmf1 hm2 hmf2 D3 K3 B3 O2 HC3; rw [List.length_take, HTL.out] at D4 K4 B4 O4 HC4; rw [HTL.out]; generalize (w2.setCell ⟨g, 2, none⟩ (.slice A2 n c2)) = w4 at D4 K4 B4 O4 HC4 ⊢; have hv1 : w4.cell? ⟨g, 1, none⟩ = some (.slice As d.sure.length cs) := (blk_cell HC4.out 1).trans rfl; have hv2 : w4.cell? ⟨g, 2, none⟩ = some (.slice A2 n c2) := (blk_cell HC4.out 2).trans rfl))
      go_end0
      exact ⟨rfl, D4.out.mono (fun k hk => hk.imp id (fun q => by rw [← S3.out]; exact q)), K4.out, B4.out⟩
def DS.up (d : DS) : DS := if d.down = true then (if d.renew = true then { d with down := false, all := d.sure, renew := false } else { d with down := false, sure := d.all }) else d
set_option maxHeartbeats 4000000 in
set_option maxRecDepth 100000 in
theorem d_Up {P : Nat → Prop} {w : World} {g : Nat} {d : DS} (h : IsD P w g d) (ho : d.Ok) :
    Calls Try.prog 17 #[.pointer (some ⟨g, 0, none⟩)] w fun x w' => x = .returned (.tuple #[]) ∧ IsD (fun k => P k ∨ w.heap.size ≤ k) w' g d.up ∧ Kept w w' P ∧ Below 0 w w' := by
  have ho_ := Aside0.mk ho
  have HAl := Aside0.mk (show d.all.length ≤ 4194304 ∧ d.sure.length ≤ 4194304 by have := ho.room1; have := ho.all_; have := ho.sure_; omega)
  have D0 := Aside0.mk h
  have HB := Aside0.mk (below0 (Below.refl w.heap.size w)); have HK := Aside0.mk (Kept.refl w P)
  obtain ⟨vs, va, hcells, hP, hS, hA⟩ := h
  obtain ⟨As, cs, rfl⟩ := Kd.R_slice hS
  obtain ⟨Aa, ca, rfl⟩ := Kd.R_slice hA
  have PG := Aside0.mk hP; have HS := Aside0.mk hS; have HA := Aside0.mk hA; have HC := Aside0.mk hcells
  have hc4 : w.cell? ⟨g, 4, none⟩ = some (.bool d.down) := (blk_cell hcells 4).trans rfl; have hcf4 := blk_frozen hcells 4
  clear hcells hP hS hA

  unfold DS.up
  by_cases hd : d.down = true
  · rw [if_pos hd]
    rw [hd] at hc4
    by_cases hr : d.renew = true
    · rw [if_pos hr]
      have hr1 := Aside0.mk hr
      clear ho hr hd
      go_enter Try.func17, Try.ntmps17
      go_wp2_with (first | ((with_reducible refine gate_dst (N := 10) rfl ?_); have D1 := Aside0.mk (D0.out.setDown false); have K1 := Aside0.mk (kept_set HK.out PG.out 4 (.bool false)); have B1 := Aside0.mk (below0_set HB.out ⟨g, 4, none⟩ (.bool false)); have S1 := Aside0.mk (show (w.setCell ⟨g, 4, none⟩ (.bool false)).heap.size = w.heap.size by simp [World.setCell]); clear D0 HS HA HC PG hc4 hcf4; generalize (w.setCell ⟨g, 4, none⟩ (.bool false)) = w1 at D1 K1 B1 S1 ⊢; obtain ⟨As, cs, Aa, ca, hcells, hP, hS, hA⟩ := D1.out.opened; have PG := Aside0.mk hP; have HC := Aside0.mk hcells; have HS := Aside0.mk hS; have HA := Aside0.mk hA; have hq1 : w1.cell? ⟨g, 1, none⟩ = some (.slice As d.sure.length cs) := (blk_cell hcells 1).trans rfl; have hqf1 := blk_frozen hcells 1; have hq2 : w1.cell? ⟨g, 2, none⟩ = some (.slice Aa d.all.length ca) := (blk_cell hcells 2).trans rfl; have hqf2 := blk_frozen hcells 2; have hq3 : w1.cell? ⟨g, 3, none⟩ = some (.bool d.renew) := (blk_cell hcells 3).trans rfl; have hqf3 := blk_frozen hcells 3; rw [hr1.out] at hq3; clear hcells hP hS hA) | ((with_reducible refine gate_dst (N := 15) rfl ?_); refine Kd.R_lit (Kd.int .u8) _ 5 ?hg (N := 15) ?hd (xs := ([] : List Int)) (inner := []) (ok := fun _ => True) (okp := fun _ => True) ?hr ?hp (fun _ hk => hk) trivial (Below.refl _ _) (Nat.le_refl _) (by simp) ?_; (case hd => rfl); (case hg => rfl); (case hr => first | (go_simp; done) | (go_simp; rfl)); (case hp => exact (Reps.none _ _)); intro vL wL hoL hbL hg_ hnew_; clear hg_ hnew_; have BL := Aside0.mk hbL; have OL := Aside0.mk hoL; have DL := Aside0.mk (D1.out.below hbL); have CL := Aside0.mk (Kd.C_below (Kd.R_reads' HS.out).2.2 hbL); have hcL := blk_below HC.out hbL; have hl1 : wL.cell? ⟨g, 1, none⟩ = some (.slice As d.sure.length cs) := (blk_cell hcL 1).trans rfl; have hlf1 := blk_frozen hcL 1; have hl2 : wL.cell? ⟨g, 2, none⟩ = some (.slice Aa d.all.length ca) := (blk_cell hcL 2).trans rfl; have hlf2 := blk_frozen hcL 2; have hl3 : wL.cell? ⟨g, 3, none⟩ = some (.bool d.renew) := (blk_cell hcL 3).trans rfl; have hlf3 := blk_frozen hcL 3; clear hcL hbL hoL) | ((with_reducible refine gate_builtin (b := .append) (xs := #[.tmp 15, .tmp 19]) rfl ?_); at_builtin; refine Kd.R_append_rows (Kd.int .u8) (w0 := w1) w1.heap.size rfl (.tmp 15) (.tmp 19) 22 5 (.int .u8 0) 1 rfl Try.underlying22 info5 rfl (by decide) (by omega) (vL) ([]) (d.sure) _ _ _ (fun _ => True) (fun _ => False) rfl rfl ?aO ?aR (fun _ _ h => h) (fun _ h => h.elim) ?aF ?aB ?aS ?aL ?_; (case aR => exact CL.out); (case aB => exact BL.out); (case aF => exact (fun _ _ => trivial)); (case aO => exact OL.out); (case aS => exact (BL.out).size); (case aL => (have := HAl.out; simp only [List.length_nil]; omega)); intro v2 w2 ho hb hg hat; clear hg hat; rw [List.nil_append] at ho; obtain ⟨A2, c2, e2_⟩ := Kd.R_slice ho; subst e2_; have B2 := Aside0.mk hb; have O2 := Aside0.mk ho; have hc2 := blk_below HC.out hb; have hm1 : w2.cell? ⟨g, 1, none⟩ = some (.slice As d.sure.length cs) := (blk_cell hc2 1).trans rfl; have hmf1 := blk_frozen hc2 1; have hm2 : w2.cell? ⟨g, 2, none⟩ = some (.slice Aa d.all.length ca) := (blk_cell hc2 2).trans rfl; have hmf2 := blk_frozen hc2 2; have hm3 : w2.cell? ⟨g, 3, none⟩ = some (.bool d.renew) := (blk_cell hc2 3).trans rfl; have hmf3 := blk_frozen hc2 3; clear hc2 hb ho) | ((with_reducible refine gate_dst (N := 26) rfl ?_); have D5 := Aside0.mk ((D1.out.newAll O2.out B2.out).setRenew false); have K5 := Aside0.mk (kept_set (kept_set (K1.out.then_ (new_kept P B2.out) (fun k hk => .inl hk)) PG.out 2 (.slice A2 d.sure.length c2)) PG.out 3 (.bool false)); have B5 := Aside0.mk (below0_set (below0_set (Below.trans B1.out (below0 B2.out)) ⟨g, 2, none⟩ (.slice A2 d.sure.length c2)) ⟨g, 3, none⟩ (.bool false)); have S5 := Aside0.mk (show w.heap.size ≤ ((w2.setCell ⟨g, 2, none⟩ (.slice A2 d.sure.length c2)).setCell ⟨g, 3, none⟩ (.bool false)).heap.size by have := B2.out.size; have := S1.out; simp [World.setCell]; omega); clear D1 K1 B1 HS HA HC hm1 hmf1 hm2 hmf2 hm3 hmf3 BL OL DL CL O2 B2 hl1 hlf1 hl2 hlf2 hl3 hlf3; generalize ((w2.setCell ⟨g, 2, none⟩ (.slice A2 d.sure.length c2)).setCell ⟨g, 3, none⟩ (.bool false)) = w5 at D5 K5 B5 S5 ⊢; obtain ⟨As5, cs5, Aa5, ca5, hcells, hP, hS, hA⟩ := D5.out.opened; have PG5 := Aside0.mk hP; have HC5 := Aside0.mk hcells; have HA5 := Aside0.mk hA; clear hcells hP hS hA; refine Kd.R_lit (Kd.int .u8) _ 5 ?hg (N := 26) ?hd (xs := ([] : List Int)) (inner := []) (ok := fun _ => True) (okp := fun _ => True) ?hr ?hp (fun _ hk => hk) trivial (Below.refl _ _) (Nat.le_refl _) (by simp) ?_; (case hd => rfl); (case hg => rfl); (case hr => first | (go_simp; done) | (go_simp; rfl)); (case hp => exact (Reps.none _ _)); intro vM wM hoL hbL hg_ hnew_; clear hg_ hnew_; have BM := Aside0.mk hbL; have OM := Aside0.mk hoL; have CM := Aside0.mk (Kd.C_below (Kd.R_reads' HA5.out).2.2 hbL); have hcM := blk_below HC5.out hbL; have hn1 : wM.cell? ⟨g, 1, none⟩ = some (.slice As5 d.sure.length cs5) := (blk_cell hcM 1).trans rfl; have hnf1 := blk_frozen hcM 1; have hn2 : wM.cell? ⟨g, 2, none⟩ = some (.slice Aa5 d.sure.length ca5) := (blk_cell hcM 2).trans rfl; clear hcM hbL hoL) | ((with_reducible refine gate_builtin (b := .append) (xs := #[.tmp 26, .tmp 30]) rfl ?_); at_builtin; refine Kd.R_append_rows (Kd.int .u8) (w0 := w5) w5.heap.size rfl (.tmp 26) (.tmp 30) 22 5 (.int .u8 0) 1 rfl Try.underlying22 info5 rfl (by decide) (by omega) (vM) ([]) (d.sure) _ _ _ (fun _ => True) (fun _ => False) rfl rfl ?aO ?aR (fun _ _ h => h) (fun _ h => h.elim) ?aF ?aB ?aS ?aL ?_; (case aR => exact CM.out); (case aB => exact BM.out); (case aF => exact (fun _ _ => trivial)); (case aO => exact OM.out); (case aS => exact (BM.out).size); (case aL => (have := HAl.out; simp only [List.length_nil]; omega)); intro v9 w9 ho hb hg hat; clear hg hat; rw [List.nil_append] at ho; obtain ⟨A9, c9, e9_⟩ := Kd.R_slice ho; subst e9_; have B9 := Aside0.mk hb; have O9 := Aside0.mk ho; have hc9 := blk_below HC5.out hb; have ho1 : w9.cell? ⟨g, 1, none⟩ = some (.slice As5 d.sure.length cs5) := (blk_cell hc9 1).trans rfl; have hof1 := blk_frozen hc9 1; have ho2 : w9.cell? ⟨g, 2, none⟩ = some (.slice Aa5 d.sure.length ca5) := (blk_cell hc9 2).trans rfl; clear hc9 hb ho))
      go_end0
      exact ⟨rfl, (D5.out.newSure O9.out B9.out).mono (fun k hk => hk.elim (fun q => q.imp id (fun q => by rw [← S1.out]; exact q)) (fun q => .inr (Nat.le_trans S5.out q))), kept_set (K5.out.then_ (new_kept P B9.out) (fun k hk => .inl hk)) PG.out 1 _, below0_set (Below.trans B5.out (below0 B9.out)) _ _⟩
    · rw [if_neg hr]
      have hr1 := Aside0.mk (show d.renew = false by simpa using hr)
      clear ho hr hd
      go_enter Try.func17, Try.ntmps17
      go_wp2_with (first | ((with_reducible refine gate_dst (N := 10) rfl ?_); have D1 := Aside0.mk (D0.out.setDown false); have K1 := Aside0.mk (kept_set HK.out PG.out 4 (.bool false)); have B1 := Aside0.mk (below0_set HB.out ⟨g, 4, none⟩ (.bool false)); have S1 := Aside0.mk (show (w.setCell ⟨g, 4, none⟩ (.bool false)).heap.size = w.heap.size by simp [World.setCell]); clear D0 HS HA HC PG hc4 hcf4; generalize (w.setCell ⟨g, 4, none⟩ (.bool false)) = w1 at D1 K1 B1 S1 ⊢; obtain ⟨As, cs, Aa, ca, hcells, hP, hS, hA⟩ := D1.out.opened; have PG := Aside0.mk hP; have HC := Aside0.mk hcells; have HS := Aside0.mk hS; have HA := Aside0.mk hA; have hq1 : w1.cell? ⟨g, 1, none⟩ = some (.slice As d.sure.length cs) := (blk_cell hcells 1).trans rfl; have hqf1 := blk_frozen hcells 1; have hq2 : w1.cell? ⟨g, 2, none⟩ = some (.slice Aa d.all.length ca) := (blk_cell hcells 2).trans rfl; have hqf2 := blk_frozen hcells 2; have hq3 : w1.cell? ⟨g, 3, none⟩ = some (.bool d.renew) := (blk_cell hcells 3).trans rfl; have hqf3 := blk_frozen hcells 3; rw [hr1.out] at hq3; clear hcells hP hS hA) | ((with_reducible refine gate_dst (N := 26) rfl ?_); refine Kd.R_lit (Kd.int .u8) _ 5 ?hg (N := 26) ?hd (xs := ([] : List Int)) (inner := []) (ok := fun _ => True) (okp := fun _ => True) ?hr ?hp (fun _ hk => hk) trivial (Below.refl _ _) (Nat.le_refl _) (by simp) ?_; (case hd => rfl); (case hg => rfl); (case hr => first | (go_simp; done) | (go_simp; rfl)); (case hp => exact (Reps.none _ _)); intro vL wL hoL hbL hg_ hnew_; clear hg_ hnew_; have BL := Aside0.mk hbL; have OL := Aside0.mk hoL; have DL := Aside0.mk (D1.out.below hbL); have CL := Aside0.mk (Kd.C_below (Kd.R_reads' HA.out).2.2 hbL); have hcL := blk_below HC.out hbL; have hl1 : wL.cell? ⟨g, 1, none⟩ = some (.slice As d.sure.length cs) := (blk_cell hcL 1).trans rfl; have hlf1 := blk_frozen hcL 1; have hl2 : wL.cell? ⟨g, 2, none⟩ = some (.slice Aa d.all.length ca) := (blk_cell hcL 2).trans rfl; have hlf2 := blk_frozen hcL 2; clear hcL hbL hoL) | ((with_reducible refine gate_builtin (b := .append) (xs := #[.tmp 26, .tmp 30]) rfl ?_); at_builtin; refine Kd.R_append_rows (Kd.int .u8) (w0 := w1) w1.heap.size rfl (.tmp 26) (.tmp 30) 22 5 (.int .u8 0) 1 rfl Try.underlying22 info5 rfl (by decide) (by omega) (vL) ([]) (d.all) _ _ _ (fun _ => True) (fun _ => False) rfl rfl ?aO ?aR (fun _ _ h => h) (fun _ h => h.elim) ?aF ?aB ?aS ?aL ?_; (case aR => exact CL.out); (case aB => exact BL.out); (case aF => exact (fun _ _ => trivial)); (case aO => exact OL.out); (case aS => exact (BL.out).size); (case aL => (have := HAl.out; simp only [List.length_nil]; omega)); intro v2 w2 ho hb hg hat; clear hg hat; rw [List.nil_append] at ho; obtain ⟨A2, c2, e2_⟩ := Kd.R_slice ho; subst e2_; have B2 := Aside0.mk hb; have O2 := Aside0.mk ho; have hc2 := blk_below HC.out hb; have hm1 : w2.cell? ⟨g, 1, none⟩ = some (.slice As d.sure.length cs) := (blk_cell hc2 1).trans rfl; have hmf1 := blk_frozen hc2 1; have hm2 : w2.cell? ⟨g, 2, none⟩ = some (.slice Aa d.all.length ca) := (blk_cell hc2 2).trans rfl; have hmf2 := blk_frozen hc2 2; clear hc2 hb ho))
      go_end0
      exact ⟨rfl, (D1.out.newSure O2.out B2.out).mono (fun k hk => hk.imp id (fun q => by rw [← S1.out]; exact q)), kept_set (K1.out.then_ (new_kept P B2.out) (fun k hk => .inl hk)) PG.out 1 _, below0_set (Below.trans B1.out (below0 B2.out)) _ _⟩
  · rw [if_neg hd]
    rw [show d.down = false by simpa using hd] at hc4
    clear ho hd
    go_enter Try.func17, Try.ntmps17
    go_wp2
    go_end0
    exact ⟨rfl, D0.out.mono (fun k hk => .inl hk), HK.out, HB.out⟩
end Go.Proofs.Ythpdmjpimeibnaa.M
