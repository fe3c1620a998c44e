/-
  DiskDown, walked by hand: while it is down nothing is done to a disk; up again it is as it was.
-/
import Derived.Test.YthpdmjpimeibnaaODisk6
import Derived.Test.YthpdmjpimeibnaaHKeeps
import Derived.Test.YthpdmjpimeibnaaRowDiskDown
namespace Go.Proofs.Ythpdmjpimeibnaa.Pure
open Go.RowKit Go.Proofs.Ythpdmjpimeibnaa.M Go.Proofs.YthpdmjpimeibnaaW.PrintWords Go.Proofs.YthpdmjpimeibnaaW.PrintLast Go.Proofs.YthpdmjpimeibnaaW.PrintMore
set_option linter.unusedVariables false
set_option linter.unusedSimpArgs false
set_option maxHeartbeats 4000000 in
set_option maxRecDepth 100000 in
theorem DiskDown_hand (A0 : Option Addr) (c0 : Nat) (l0 : List Int) (A1 : Option Addr) (c1 : Nat) (l1 : List S38) (w : World)
    (hr0 : Kd.C (Kd.int .u8) w A0 l0.length l0) (hc0 : l0.length ≤ c0) (hr1 : Kd.C k38 w A1 l1.length l1) (hc1 : l1.length ≤ c1)
    (g0 : l0.length * 1 ≤ 140737488351232 ∧ ∀ x ∈ l0, (Lit.int .u8 x).wf = true) (g1 : l1.length * 48 ≤ 140737488351232 ∧ ∀ x ∈ l1, G38 x) :
    Calls Try.prog 4 #[.slice A0 l0.length c0, .slice A1 l1.length c1] w fun e w' => e = .returned (.bool true) ∧ Below w.heap.size w w' := by
  have hB0 := wf_u8 g0
  have HB := Aside0.mk (Below.refl w.heap.size w)
  have HR0 := Aside0.mk hr0; have HC0 := Aside0.mk hc0; have HR1 := Aside0.mk hr1; have HC1 := Aside0.mk hc1; clear hr0 hc0 hr1 hc1
  by_cases h0_ : l0.length > 500
  · have c0_ : decide (500 < (l0.length : Int)) = true := decide_eq_true (by omega)
    have c1_ : decide ((l0.length : Int) > 500) = true := decide_eq_true (by omega)
    clear g0 g1 hB0
    go_enter Try.func4, Try.ntmps4
    go_wp2_with (first | (go_at_call 12; refine (keeps_calls _).mono ?_; rintro e w1 ⟨rfl, hb⟩; have B1 := Aside0.mk (below_step HB.out hb); clear hb))
    go_ret
    exact ⟨rfl, B1.out⟩
  have c0a_ : decide (500 < (l0.length : Int)) = false := decide_eq_false (by omega)
  have c0b_ : decide ((l0.length : Int) > 500) = false := decide_eq_false (by omega)
  have HL0 := Aside0.mk (show l0.length ≤ 500 by omega)
  clear h0_
  by_cases h1_ : l1.length > 30
  · have c0_ : decide (30 < (l1.length : Int)) = true := decide_eq_true (by omega)
    have c1_ : decide ((l1.length : Int) > 30) = true := decide_eq_true (by omega)
    clear g0 g1 hB0
    go_enter Try.func4, Try.ntmps4
    go_wp2_with (first | (go_at_call 12; refine (keeps_calls _).mono ?_; rintro e w1 ⟨rfl, hb⟩; have B1 := Aside0.mk (below_step HB.out hb); clear hb))
    go_ret
    exact ⟨rfl, B1.out⟩
  have c1a_ : decide (30 < (l1.length : Int)) = false := decide_eq_false (by omega)
  have c1b_ : decide ((l1.length : Int) > 30) = false := decide_eq_false (by omega)
  have HL1 := Aside0.mk (show l1.length ≤ 30 by omega)
  clear h1_
  have OK := Aside0.mk (show ∀ (s a : List Int) r dn, s.length ≤ 500 → a.length ≤ 500 → DS.Ok ⟨1000, s, a, r, dn, -1⟩ from fun s a r dn h1 h2 => ⟨by simp only; omega, by simp only; omega, by simp only; omega, by simp only; omega, by simp only; omega, by simp only; omega⟩)
  have E1 := Aside0.mk (show DS.write ⟨1000, [], [], false, false, -1⟩ l0 = (⟨1000, [], l0, false, false, -1⟩, 0) from write_free rfl (by decide) (by have := HL0.out; simp only [List.length_nil]; omega))
  have E2 := Aside0.mk (show DS.crash ⟨1000, [], l0, false, false, -1⟩ 1048576 0 = ⟨1000, [], l0, false, true, -1⟩ from crash_whole rfl hB0 (Nat.zero_le _) (by have := HL0.out; simp only [List.length_nil]; omega))
  have E3 := Aside0.mk (show DS.up ⟨1000, [], l0, false, true, -1⟩ = ⟨1000, l0, l0, false, false, -1⟩ from rfl)
  clear g0 g1 hB0
  go_enter Try.func4, Try.ntmps4
  go_wp2_with fail
  refine (keeps_calls _).mono ?_; rintro e w1 ⟨rfl, hb⟩; have B1 := Aside0.mk (below_step HB.out hb); clear hb HB
  go_wp2_with fail
  refine (disk_New w1 (by decide) (by decide)).mono ?_; rintro x w2 ⟨g, rfl, hg, hD, hB⟩; have D2 := Aside0.mk (hD.mono (P' := fun k => w.heap.size ≤ k) (fun k hk => Nat.le_trans B1.out.size hk)); have B2 := Aside0.mk (below_step B1.out hB); clear hg hD hB
  go_wp2_with fail
  refine (s_Write (N := w.heap.size) D2.out (OK.out _ _ _ _ (by decide) (by decide)) (fun k hk => hk) B2.out.size (came HR0.out B2.out (fun k hk => hk)) HC0.out (by have := HL0.out; omega)).mono ?_; rintro x w3 ⟨rfl, hD, hB⟩; rw [E1.out] at hD ⊢; dsimp only at hD ⊢; have D3 := Aside0.mk hD; have B3 := Aside0.mk (B2.out.trans hB); clear hD hB
  go_wp2_with fail
  refine (s_Crash (N := w.heap.size) D3.out (OK.out _ _ _ _ (by decide) HL0.out) (fun _ => Nat.zero_le _) (by decide) (fun k hk => hk) B3.out.size).mono ?_; rintro x w4 ⟨rfl, hD, hB⟩; rw [E2.out] at hD; have D4 := Aside0.mk hD; have B4 := Aside0.mk (B3.out.trans hB); clear hD hB
  go_wp2_with fail
  go_loopg [34] (l1.length + 1) (fun kq v34 w' => ∃ (i : Nat), v34 = .int .i64 (i : Int) ∧ Aside0 (i ≤ l1.length ∧ i + kq = l1.length + 1) ∧ Aside0 (IsD (fun k => w.heap.size ≤ k) w' g ⟨1000, [], l0, false, true, -1⟩) ∧ Aside0 (Below w.heap.size w w'))
  case atStart => exact ⟨0, rfl, ⟨by omega, by omega⟩, D4, B4⟩
  case round =>
    obtain ⟨i, rfl, HI, D5, B5⟩ := hrel
    by_cases hi : i < l1.length
    · have d1 : decide ((i : Int) < (l1.length : Int)) = true := decide_eq_true (by omega)
      have hi0 : (0 : Int) ≤ (i : Int) := by omega
      have hi1 : (i : Int) < (l1.length : Int) := by omega
      obtain ⟨ad, Aq, cq, rfl, x0_, x1_, x2_, x3_, -, -⟩ := at_T38 (Kd.C_below HR1.out B5.out) (i : Int) hi0 hi1
      obtain ⟨q, hq⟩ : ∃ q, q = rd_T38 l1 (i : Int) := ⟨_, rfl⟩
      rw [← hq, Int.toNat_natCast] at x0_ x1_ x2_ x3_
      clear hq
      have b2 : wrap64 ((i : Int) + 1) = ((i + 1 : Nat) : Int) := by have := HL1.out; unfold wrap64; omega
      have q1 := eq_true hi0
      have q2 := eq_true hi1
      have q3 : decide ((0 : Int) ≤ (i : Int)) = true := decide_eq_true hi0
      have NK := Aside0.mk (show (i + 1 ≤ l1.length ∧ i + 1 + (gk - 1) = l1.length + 1) ∧ 0 < gk by have := HI.out; omega)
      clear hi
      by_cases hk_ : q.f0 = 0
      · have t0 : (q.f0 == 0) = true := beq_iff_eq.mpr hk_
        clear hk_
        go_wp2_with (first | ((with_reducible refine gate_dst (N := 8) rfl ?_); refine box_event ?hg (N := 8) ?hd (cs := #[.int .i64 0, .int .i64 0, .slice none 0 0, .int .u8 0]) (t := 38) ?hr ?_; (case hd => rfl); (case hg => rfl); (case hr => first | (go_simp; done) | (go_simp; rfl)); intro gx hg w6 hbox hb; have GX := Aside0.mk (show wr.heap.size ≤ gx ∧ w.heap.size ≤ gx from by rw [hg]; exact ⟨Nat.le_refl _, B5.out.size⟩); have B6 := Aside0.mk (below_step B5.out hb); have D6 := Aside0.mk (D5.out.bound.below hb); have X6 := Aside0.mk hbox; clear B5 D5; have zc0 : w6.cell? ⟨gx, 0, none⟩ = some (.int .i64 0) := (blk_cell X6.out 0).trans rfl; have zf0 := blk_frozen X6.out 0; have zc1 : w6.cell? ⟨gx, 1, none⟩ = some (.int .i64 0) := (blk_cell X6.out 1).trans rfl; have zf1 := blk_frozen X6.out 1; have zc2 : w6.cell? ⟨gx, 2, none⟩ = some (.slice none 0 0) := (blk_cell X6.out 2).trans rfl; have zf2 := blk_frozen X6.out 2; have zc3 : w6.cell? ⟨gx, 3, none⟩ = some (.int .u8 0) := (blk_cell X6.out 3).trans rfl; have zf3 := blk_frozen X6.out 3; clear hb hg hbox) | ((with_reducible refine gate_dst (N := 38) rfl ?_); have B7 := Aside0.mk (set4_below B6.out GX.out.2 (.int .i64 q.f0) (.int .i64 q.f1) (.slice Aq q.f2.length cq) (.int .u8 q.f3)); have D7 := Aside0.mk ((D6.out.kept (set4_kept w6 gx (.int .i64 q.f0) (.int .i64 q.f1) (.slice Aq q.f2.length cq) (.int .u8 q.f3)) (fun k hk e => by subst e; exact absurd hk.2 (Nat.not_lt.mpr GX.out.1))).mono (P' := fun k => w.heap.size ≤ k) (fun k hk => hk.1)); have X7 := Aside0.mk (set4_blk X6.out (.int .i64 q.f0) (.int .i64 q.f1) (.slice Aq q.f2.length cq) (.int .u8 q.f3)); clear B6 D6 X6 zc0 zf0 zc1 zf1 zc2 zf2 zc3 zf3; unfold set4 at B7 D7 X7; generalize ((((w6.setCell ⟨gx, 0, none⟩ (.int .i64 q.f0)).setCell ⟨gx, 1, none⟩ (.int .i64 q.f1)).setCell ⟨gx, 2, none⟩ (.slice Aq q.f2.length cq)).setCell ⟨gx, 3, none⟩ (.int .u8 q.f3)) = w7 at B7 D7 X7 ⊢; have xc0 : w7.cell? ⟨gx, 0, none⟩ = some (.int .i64 q.f0) := (blk_cell X7.out 0).trans rfl; have xf0 := blk_frozen X7.out 0; have xc1 : w7.cell? ⟨gx, 1, none⟩ = some (.int .i64 q.f1) := (blk_cell X7.out 1).trans rfl; have xf1 := blk_frozen X7.out 1; have xc2 : w7.cell? ⟨gx, 2, none⟩ = some (.slice Aq q.f2.length cq) := (blk_cell X7.out 2).trans rfl; have xf2 := blk_frozen X7.out 2; have xc3 : w7.cell? ⟨gx, 3, none⟩ = some (.int .u8 q.f3) := (blk_cell X7.out 3).trans rfl; have xf3 := blk_frozen X7.out 3))
        refine (d_Write_down D7.out rfl).mono ?_; rintro x w8 ⟨rfl, hD, hB⟩; have D8 := Aside0.mk hD; have B8 := Aside0.mk (below_step B7.out hB); clear hD hB
        go_wp2_with fail
        go_roundg (gk - 1)
        case measure => have := NK.out.2; omega
        case rel => exact ⟨i + 1, by rw [b2], ⟨NK.out.1⟩, D8, B8⟩
      have t0 : (q.f0 == 0) = false := beq_eq_false_iff_ne.mpr hk_
      clear hk_
      by_cases hk_ : q.f0 = 1
      · have t1 : (q.f0 == 1) = true := beq_iff_eq.mpr hk_
        clear hk_
        go_wp2_with (first | ((with_reducible refine gate_dst (N := 8) rfl ?_); refine box_event ?hg (N := 8) ?hd (cs := #[.int .i64 0, .int .i64 0, .slice none 0 0, .int .u8 0]) (t := 38) ?hr ?_; (case hd => rfl); (case hg => rfl); (case hr => first | (go_simp; done) | (go_simp; rfl)); intro gx hg w6 hbox hb; have GX := Aside0.mk (show wr.heap.size ≤ gx ∧ w.heap.size ≤ gx from by rw [hg]; exact ⟨Nat.le_refl _, B5.out.size⟩); have B6 := Aside0.mk (below_step B5.out hb); have D6 := Aside0.mk (D5.out.bound.below hb); have X6 := Aside0.mk hbox; clear B5 D5; have zc0 : w6.cell? ⟨gx, 0, none⟩ = some (.int .i64 0) := (blk_cell X6.out 0).trans rfl; have zf0 := blk_frozen X6.out 0; have zc1 : w6.cell? ⟨gx, 1, none⟩ = some (.int .i64 0) := (blk_cell X6.out 1).trans rfl; have zf1 := blk_frozen X6.out 1; have zc2 : w6.cell? ⟨gx, 2, none⟩ = some (.slice none 0 0) := (blk_cell X6.out 2).trans rfl; have zf2 := blk_frozen X6.out 2; have zc3 : w6.cell? ⟨gx, 3, none⟩ = some (.int .u8 0) := (blk_cell X6.out 3).trans rfl; have zf3 := blk_frozen X6.out 3; clear hb hg hbox) | ((with_reducible refine gate_dst (N := 38) rfl ?_); have B7 := Aside0.mk (set4_below B6.out GX.out.2 (.int .i64 q.f0) (.int .i64 q.f1) (.slice Aq q.f2.length cq) (.int .u8 q.f3)); have D7 := Aside0.mk ((D6.out.kept (set4_kept w6 gx (.int .i64 q.f0) (.int .i64 q.f1) (.slice Aq q.f2.length cq) (.int .u8 q.f3)) (fun k hk e => by subst e; exact absurd hk.2 (Nat.not_lt.mpr GX.out.1))).mono (P' := fun k => w.heap.size ≤ k) (fun k hk => hk.1)); have X7 := Aside0.mk (set4_blk X6.out (.int .i64 q.f0) (.int .i64 q.f1) (.slice Aq q.f2.length cq) (.int .u8 q.f3)); clear B6 D6 X6 zc0 zf0 zc1 zf1 zc2 zf2 zc3 zf3; unfold set4 at B7 D7 X7; generalize ((((w6.setCell ⟨gx, 0, none⟩ (.int .i64 q.f0)).setCell ⟨gx, 1, none⟩ (.int .i64 q.f1)).setCell ⟨gx, 2, none⟩ (.slice Aq q.f2.length cq)).setCell ⟨gx, 3, none⟩ (.int .u8 q.f3)) = w7 at B7 D7 X7 ⊢; have xc0 : w7.cell? ⟨gx, 0, none⟩ = some (.int .i64 q.f0) := (blk_cell X7.out 0).trans rfl; have xf0 := blk_frozen X7.out 0; have xc1 : w7.cell? ⟨gx, 1, none⟩ = some (.int .i64 q.f1) := (blk_cell X7.out 1).trans rfl; have xf1 := blk_frozen X7.out 1; have xc2 : w7.cell? ⟨gx, 2, none⟩ = some (.slice Aq q.f2.length cq) := (blk_cell X7.out 2).trans rfl; have xf2 := blk_frozen X7.out 2; have xc3 : w7.cell? ⟨gx, 3, none⟩ = some (.int .u8 q.f3) := (blk_cell X7.out 3).trans rfl; have xf3 := blk_frozen X7.out 3))
        refine (d_Renew_down D7.out rfl).mono ?_; rintro x w8 ⟨rfl, hD, hB⟩; have D8 := Aside0.mk hD; have B8 := Aside0.mk (below_step B7.out hB); clear hD hB
        go_wp2_with fail
        go_roundg (gk - 1)
        case measure => have := NK.out.2; omega
        case rel => exact ⟨i + 1, by rw [b2], ⟨NK.out.1⟩, D8, B8⟩
      have t1 : (q.f0 == 1) = false := beq_eq_false_iff_ne.mpr hk_
      clear hk_
      by_cases hk_ : q.f0 = 2
      · have t2 : (q.f0 == 2) = true := beq_iff_eq.mpr hk_
        clear hk_
        go_wp2_with (first | ((with_reducible refine gate_dst (N := 8) rfl ?_); refine box_event ?hg (N := 8) ?hd (cs := #[.int .i64 0, .int .i64 0, .slice none 0 0, .int .u8 0]) (t := 38) ?hr ?_; (case hd => rfl); (case hg => rfl); (case hr => first | (go_simp; done) | (go_simp; rfl)); intro gx hg w6 hbox hb; have GX := Aside0.mk (show wr.heap.size ≤ gx ∧ w.heap.size ≤ gx from by rw [hg]; exact ⟨Nat.le_refl _, B5.out.size⟩); have B6 := Aside0.mk (below_step B5.out hb); have D6 := Aside0.mk (D5.out.bound.below hb); have X6 := Aside0.mk hbox; clear B5 D5; have zc0 : w6.cell? ⟨gx, 0, none⟩ = some (.int .i64 0) := (blk_cell X6.out 0).trans rfl; have zf0 := blk_frozen X6.out 0; have zc1 : w6.cell? ⟨gx, 1, none⟩ = some (.int .i64 0) := (blk_cell X6.out 1).trans rfl; have zf1 := blk_frozen X6.out 1; have zc2 : w6.cell? ⟨gx, 2, none⟩ = some (.slice none 0 0) := (blk_cell X6.out 2).trans rfl; have zf2 := blk_frozen X6.out 2; have zc3 : w6.cell? ⟨gx, 3, none⟩ = some (.int .u8 0) := (blk_cell X6.out 3).trans rfl; have zf3 := blk_frozen X6.out 3; clear hb hg hbox) | ((with_reducible refine gate_dst (N := 38) rfl ?_); have B7 := Aside0.mk (set4_below B6.out GX.out.2 (.int .i64 q.f0) (.int .i64 q.f1) (.slice Aq q.f2.length cq) (.int .u8 q.f3)); have D7 := Aside0.mk ((D6.out.kept (set4_kept w6 gx (.int .i64 q.f0) (.int .i64 q.f1) (.slice Aq q.f2.length cq) (.int .u8 q.f3)) (fun k hk e => by subst e; exact absurd hk.2 (Nat.not_lt.mpr GX.out.1))).mono (P' := fun k => w.heap.size ≤ k) (fun k hk => hk.1)); have X7 := Aside0.mk (set4_blk X6.out (.int .i64 q.f0) (.int .i64 q.f1) (.slice Aq q.f2.length cq) (.int .u8 q.f3)); clear B6 D6 X6 zc0 zf0 zc1 zf1 zc2 zf2 zc3 zf3; unfold set4 at B7 D7 X7; generalize ((((w6.setCell ⟨gx, 0, none⟩ (.int .i64 q.f0)).setCell ⟨gx, 1, none⟩ (.int .i64 q.f1)).setCell ⟨gx, 2, none⟩ (.slice Aq q.f2.length cq)).setCell ⟨gx, 3, none⟩ (.int .u8 q.f3)) = w7 at B7 D7 X7 ⊢; have xc0 : w7.cell? ⟨gx, 0, none⟩ = some (.int .i64 q.f0) := (blk_cell X7.out 0).trans rfl; have xf0 := blk_frozen X7.out 0; have xc1 : w7.cell? ⟨gx, 1, none⟩ = some (.int .i64 q.f1) := (blk_cell X7.out 1).trans rfl; have xf1 := blk_frozen X7.out 1; have xc2 : w7.cell? ⟨gx, 2, none⟩ = some (.slice Aq q.f2.length cq) := (blk_cell X7.out 2).trans rfl; have xf2 := blk_frozen X7.out 2; have xc3 : w7.cell? ⟨gx, 3, none⟩ = some (.int .u8 q.f3) := (blk_cell X7.out 3).trans rfl; have xf3 := blk_frozen X7.out 3))
        refine (s_Sync_down (N := w.heap.size) D7.out (OK.out _ _ _ _ (by decide) HL0.out) rfl (fun k hk => hk) B7.out.size).mono ?_; rintro x w8 ⟨rfl, hD, hB⟩; have D8 := Aside0.mk hD; have B8 := Aside0.mk (B7.out.trans hB); clear hD hB
        go_wp2_with fail
        go_roundg (gk - 1)
        case measure => have := NK.out.2; omega
        case rel => exact ⟨i + 1, by rw [b2], ⟨NK.out.1⟩, D8, B8⟩
      have t2 : (q.f0 == 2) = false := beq_eq_false_iff_ne.mpr hk_
      clear hk_
      go_wp2_with (first | ((with_reducible refine gate_dst (N := 8) rfl ?_); refine box_event ?hg (N := 8) ?hd (cs := #[.int .i64 0, .int .i64 0, .slice none 0 0, .int .u8 0]) (t := 38) ?hr ?_; (case hd => rfl); (case hg => rfl); (case hr => first | (go_simp; done) | (go_simp; rfl)); intro gx hg w6 hbox hb; have GX := Aside0.mk (show wr.heap.size ≤ gx ∧ w.heap.size ≤ gx from by rw [hg]; exact ⟨Nat.le_refl _, B5.out.size⟩); have B6 := Aside0.mk (below_step B5.out hb); have D6 := Aside0.mk (D5.out.bound.below hb); have X6 := Aside0.mk hbox; clear B5 D5; have zc0 : w6.cell? ⟨gx, 0, none⟩ = some (.int .i64 0) := (blk_cell X6.out 0).trans rfl; have zf0 := blk_frozen X6.out 0; have zc1 : w6.cell? ⟨gx, 1, none⟩ = some (.int .i64 0) := (blk_cell X6.out 1).trans rfl; have zf1 := blk_frozen X6.out 1; have zc2 : w6.cell? ⟨gx, 2, none⟩ = some (.slice none 0 0) := (blk_cell X6.out 2).trans rfl; have zf2 := blk_frozen X6.out 2; have zc3 : w6.cell? ⟨gx, 3, none⟩ = some (.int .u8 0) := (blk_cell X6.out 3).trans rfl; have zf3 := blk_frozen X6.out 3; clear hb hg hbox) | ((with_reducible refine gate_dst (N := 38) rfl ?_); have B7 := Aside0.mk (set4_below B6.out GX.out.2 (.int .i64 q.f0) (.int .i64 q.f1) (.slice Aq q.f2.length cq) (.int .u8 q.f3)); have D7 := Aside0.mk ((D6.out.kept (set4_kept w6 gx (.int .i64 q.f0) (.int .i64 q.f1) (.slice Aq q.f2.length cq) (.int .u8 q.f3)) (fun k hk e => by subst e; exact absurd hk.2 (Nat.not_lt.mpr GX.out.1))).mono (P' := fun k => w.heap.size ≤ k) (fun k hk => hk.1)); have X7 := Aside0.mk (set4_blk X6.out (.int .i64 q.f0) (.int .i64 q.f1) (.slice Aq q.f2.length cq) (.int .u8 q.f3)); clear B6 D6 X6 zc0 zf0 zc1 zf1 zc2 zf2 zc3 zf3; unfold set4 at B7 D7 X7; generalize ((((w6.setCell ⟨gx, 0, none⟩ (.int .i64 q.f0)).setCell ⟨gx, 1, none⟩ (.int .i64 q.f1)).setCell ⟨gx, 2, none⟩ (.slice Aq q.f2.length cq)).setCell ⟨gx, 3, none⟩ (.int .u8 q.f3)) = w7 at B7 D7 X7 ⊢; have xc0 : w7.cell? ⟨gx, 0, none⟩ = some (.int .i64 q.f0) := (blk_cell X7.out 0).trans rfl; have xf0 := blk_frozen X7.out 0; have xc1 : w7.cell? ⟨gx, 1, none⟩ = some (.int .i64 q.f1) := (blk_cell X7.out 1).trans rfl; have xf1 := blk_frozen X7.out 1; have xc2 : w7.cell? ⟨gx, 2, none⟩ = some (.slice Aq q.f2.length cq) := (blk_cell X7.out 2).trans rfl; have xf2 := blk_frozen X7.out 2; have xc3 : w7.cell? ⟨gx, 3, none⟩ = some (.int .u8 q.f3) := (blk_cell X7.out 3).trans rfl; have xf3 := blk_frozen X7.out 3))
      go_roundg (gk - 1)
      case measure => have := NK.out.2; omega
      case rel => exact ⟨i + 1, by rw [b2], ⟨NK.out.1⟩, D7, B7⟩
    · have d1 : decide ((i : Int) < (l1.length : Int)) = false := decide_eq_false (by omega)
      obtain rfl : i = l1.length := by have := HI.out; omega
      clear hi
      go_wp2_with fail
      refine (s_Read_down D5.out rfl).mono ?_; rintro x w8 ⟨rfl, hD, hB⟩; have D8 := Aside0.mk hD; have B8 := Aside0.mk (below_step B5.out hB); clear hD hB
      go_wp2_with fail
      refine (d_Down D8.out).mono ?_; rintro x w9 ⟨rfl, hD, hB⟩; have D9 := Aside0.mk hD; have B9 := Aside0.mk (below_step B8.out hB); clear hD hB
      go_wp2_with fail
      refine (s_Up (N := w.heap.size) D9.out (OK.out _ _ _ _ (by decide) HL0.out) (fun k hk => hk) B9.out.size).mono ?_; rintro x w10 ⟨rfl, hD, hB⟩; rw [E3.out] at hD; have D10 := Aside0.mk hD; have B10 := Aside0.mk (B9.out.trans hB); clear hD hB
      go_wp2_with fail
      refine (d_Read D10.out (OK.out _ _ _ _ HL0.out HL0.out) rfl).mono ?_; rintro x w11 ⟨v, rfl, hO, hD, hB⟩; have D11 := Aside0.mk hD; have B11 := Aside0.mk (below_step B10.out hB); have hcv := own_string (P := Try.prog) Try.underlying22 Try.underlying5 Try.underlying9 (Kd.own_of_R hO); have hcw := Kd.C_string (P := Try.prog) (c := c0) Try.underlying22 Try.underlying5 Try.underlying9 (Kd.C_below HR0.out B11.out); clear hO hD hB
      go_wp2_with fail
      refine (d_Sure D11.out).mono ?_; rintro x w12 ⟨rfl, hD, hB⟩; have D12 := Aside0.mk hD; have B12 := Aside0.mk (below_step B11.out hB); clear hD hB
      go_wp2_with fail
      refine (d_Down D12.out).mono ?_; rintro x w13 ⟨rfl, hD, hB⟩; have B13 := Aside0.mk (below_step B12.out hB); clear hD hB
      go_wp2_with fail
      go_ret
      exact ⟨rfl, B13.out⟩
end Go.Proofs.Ythpdmjpimeibnaa.Pure
