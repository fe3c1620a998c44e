/-
  DiskSure, walked by hand: behind a sync, whatever is written, and however it crashes, all that was there is there, ahead of all else.
-/
import Derived.Test.YthpdmjpimeibnaaODo
import Derived.Test.YthpdmjpimeibnaaHKeeps
import Derived.Test.YthpdmjpimeibnaaRowDiskSure
namespace Go.Proofs.Ythpdmjpimeibnaa.Pure
open Go.RowKit Go.Proofs.Ythpdmjpimeibnaa.M Go.Proofs.YthpdmjpimeibnaaW.PrintWords Go.Proofs.YthpdmjpimeibnaaW.PrintLast Go.Proofs.YthpdmjpimeibnaaW.PrintMore
set_option linter.unusedVariables false
set_option linter.unusedSimpArgs false
/-- what was synced is ahead of all -/
def Good (l : List Int) (d : DS) : Prop := d.Ok ∧ d.room = 1048576 ∧ d.renew = false ∧ (∃ s, d.sure = l ++ s) ∧ ∃ r, d.all = d.sure ++ r
theorem Good.ok {l : List Int} {d : DS} (h : Good l d) : d.Ok := h.1
theorem Good.le {l : List Int} {d : DS} (h : Good l d) : d.renew = false → d.sure.length ≤ d.all.length := fun _ => by obtain ⟨_, _, _, _, r, hr⟩ := h; rw [hr, List.length_append]; omega
theorem good_write {l : List Int} {d : DS} (h : Good l d) (x : List Int) : Good l (d.write x).1 := by
  obtain ⟨h1, h2, h3, ⟨s, h4⟩, r, h5⟩ := h
  unfold DS.write
  by_cases hd : d.down = true
  · rw [if_pos hd]; exact ⟨h1, h2, h3, ⟨s, h4⟩, r, h5⟩
  rw [if_neg hd]
  by_cases hf : (x.length : Int) > d.room - d.all.length
  · rw [if_pos hf]; exact ⟨h1, h2, h3, ⟨s, h4⟩, r, h5⟩
  rw [if_neg hf]
  obtain ⟨b1, b2, b3, b4⟩ := burn_all d (x.length : Int)
  have hfu : -1 ≤ (d.burn (x.length : Int)).1.fuse ∧ (d.burn (x.length : Int)).1.fuse ≤ 9223372036854775807 := by
    have := h1.fuse0; have := h1.fuse1
    unfold DS.burn
    split
    · exact ⟨h1.fuse0, h1.fuse1⟩
    · split
      · exact ⟨by simp, by simp⟩
      · exact ⟨by simp only; omega, by simp only; omega⟩
  refine ⟨⟨by simp only; rw [b3]; exact h1.room0, by simp only; rw [b3]; exact h1.room1, ?_, by simp only; rw [b2, b3]; exact h1.sure_, hfu.1, hfu.2⟩, by simp only; rw [b3, h2], by simp only; rw [b4, h3], ⟨s, by simp only; rw [b2, h4]⟩, r ++ x.take (d.burn (x.length : Int)).2.1.toNat, ?_⟩
  · simp only
    rw [b3, List.length_append, List.length_take]
    omega
  · simp only
    rw [b2, h5, List.append_assoc]
theorem good_sync {l : List Int} {d : DS} (h : Good l d) : Good l d.sync.1 := by
  obtain ⟨h1, h2, h3, ⟨s, h4⟩, r, h5⟩ := h
  unfold DS.sync
  by_cases hd : d.down = true
  · rw [if_pos hd]; exact ⟨h1, h2, h3, ⟨s, h4⟩, r, h5⟩
  rw [if_neg hd]
  exact ⟨⟨h1.room0, h1.room1, h1.all_, h1.all_, h1.fuse0, h1.fuse1⟩, h2, rfl, ⟨s ++ r, by simp only; rw [h5, h4, List.append_assoc]⟩, [], by simp⟩
theorem good_crash {l : List Int} {d : DS} (h : Good l d) (n turn : Int) : Good l (d.crash n turn) := by
  obtain ⟨h1, h2, h3, ⟨s, h4⟩, r, h5⟩ := h
  have hl : d.all.length = d.sure.length + r.length := by rw [h5, List.length_append]
  have ht : d.sure.length ≤ d.torn n ∧ d.torn n ≤ d.all.length := by unfold DS.torn; omega
  unfold DS.crash
  rw [if_neg (by simp [h3])]
  have htk : d.all.take (d.torn n) = d.sure ++ r.take (d.torn n - d.sure.length) := by rw [h5, List.take_append, List.take_of_length_le ht.1]
  have hal := h1.all_
  by_cases hc : d.torn n > d.sure.length
  · rw [if_pos hc]
    refine ⟨⟨h1.room0, h1.room1, ?_, h1.sure_, by simp, by simp⟩, h2, h3, ⟨s, h4⟩, (r.take (d.torn n - d.sure.length)).set (d.torn n - 1 - d.sure.length) (Go.bits .xor .u8 (rd (d.all.take (d.torn n)) ((d.torn n - 1 : Nat) : Int)) turn), ?_⟩
    · simp only
      rw [List.length_set, List.length_take]; omega
    · simp only
      rw [htk, List.set_append_right _ _ (by omega)]
  · rw [if_neg hc]
    refine ⟨⟨h1.room0, h1.room1, ?_, h1.sure_, by simp, by simp⟩, h2, h3, ⟨s, h4⟩, r.take (d.torn n - d.sure.length), htk⟩
    simp only
    rw [List.length_take]; omega
theorem good_up {l : List Int} {d : DS} (h : Good l d) : Good l d.up ∧ d.up.down = false := by
  obtain ⟨h1, h2, h3, ⟨s, h4⟩, r, h5⟩ := h
  unfold DS.up
  by_cases hd : d.down = true
  · rw [if_pos hd, if_neg (by simp [h3])]
    exact ⟨⟨⟨h1.room0, h1.room1, h1.all_, h1.all_, h1.fuse0, h1.fuse1⟩, h2, h3, ⟨s ++ r, by simp only; rw [h5, h4, List.append_assoc]⟩, [], by simp⟩, rfl⟩
  · rw [if_neg hd]
    exact ⟨⟨h1, h2, h3, ⟨s, h4⟩, r, h5⟩, by simpa using hd⟩
theorem good_doing {l : List Int} {d : DS} (h : Good l d) (kind n : Int) (x : List Int) (turn : Int) (hn : -9223372036854775808 ≤ n ∧ n ≤ 9223372036854775807) : Good l (d.doing kind n x turn) := by
  unfold DS.doing
  split
  · exact good_write h x
  split
  · exact good_sync h
  split
  · obtain ⟨h1, h2, h3, h4, h5⟩ := h
    have hm : -1 ≤ mx n (-1) ∧ mx n (-1) ≤ 9223372036854775807 := by unfold mx; split <;> omega
    exact ⟨⟨h1.room0, h1.room1, h1.all_, h1.sure_, hm.1, hm.2⟩, h2, h3, h4, h5⟩
  split
  · exact good_crash h n turn
  split
  · exact (good_up h).1
  · exact h
set_option maxHeartbeats 4000000 in
set_option maxRecDepth 100000 in
theorem DiskSure_hand (A0 : Option Addr) (c0 : Nat) (l0 : List Int) (A1 : Option Addr) (c1 : Nat) (l1 : List S38) (w : World)
    (hr0 : Kd.C (Kd.int .u8) w A0 l0.length l0) (hc0 : l0.length ≤ c0) (hr1 : Kd.C k38 w A1 l1.length l1) (hc1 : l1.length ≤ c1)
    (g0 : l0.length * 1 ≤ 140737488351232 ∧ ∀ x ∈ l0, (Lit.int .u8 x).wf = true) (g1 : l1.length * 48 ≤ 140737488351232 ∧ ∀ x ∈ l1, G38 x) :
    Calls Try.prog 5 #[.slice A0 l0.length c0, .slice A1 l1.length c1] w fun e w' => e = .returned (.bool true) ∧ Below w.heap.size w w' := by
  have hB0 := wf_u8 g0
  have HB := Aside0.mk (Below.refl w.heap.size w)
  have HR0 := Aside0.mk hr0; have HC0 := Aside0.mk hc0; have HR1 := Aside0.mk hr1; have HC1 := Aside0.mk hc1; have HG1 := Aside0.mk g1.2; clear hr0 hc0 hr1 hc1
  by_cases h0_ : l0.length > 1000
  · have c0_ : decide (1000 < (l0.length : Int)) = true := decide_eq_true (by omega)
    have c1_ : decide ((l0.length : Int) > 1000) = true := decide_eq_true (by omega)
    clear h0_
    clear g0 g1 hB0
    go_enter Try.func5, Try.ntmps5
    go_wp2_with (first | (go_at_call 12; refine (keeps_calls _).mono ?_; rintro e w1 ⟨rfl, hb⟩; have B1 := Aside0.mk (below_step HB.out hb); clear hb))
    go_ret
    exact ⟨rfl, B1.out⟩
  have c0a_ : decide (1000 < (l0.length : Int)) = false := decide_eq_false (by omega)
  have c0b_ : decide ((l0.length : Int) > 1000) = false := decide_eq_false (by omega)
  have HL0 := Aside0.mk (show l0.length ≤ 1000 by omega)
  clear h0_
  by_cases h1_ : l1.length > 40
  · have c0_ : decide (40 < (l1.length : Int)) = true := decide_eq_true (by omega)
    have c1_ : decide ((l1.length : Int) > 40) = true := decide_eq_true (by omega)
    clear h1_
    clear g0 g1 hB0
    go_enter Try.func5, Try.ntmps5
    go_wp2_with (first | (go_at_call 12; refine (keeps_calls _).mono ?_; rintro e w1 ⟨rfl, hb⟩; have B1 := Aside0.mk (below_step HB.out hb); clear hb))
    go_ret
    exact ⟨rfl, B1.out⟩
  have c1a_ : decide (40 < (l1.length : Int)) = false := decide_eq_false (by omega)
  have c1b_ : decide ((l1.length : Int) > 40) = false := decide_eq_false (by omega)
  have HL1 := Aside0.mk (show l1.length ≤ 40 by omega)
  clear h1_
  have E1 := Aside0.mk (show DS.write ⟨1048576, [], [], false, false, -1⟩ l0 = (⟨1048576, [], l0, false, false, -1⟩, 0) from write_free rfl (by decide) (by have := HL0.out; simp only [List.length_nil]; omega))
  have E2 := Aside0.mk (show DS.sync ⟨1048576, [], l0, false, false, -1⟩ = (⟨1048576, l0, l0, false, false, -1⟩, 0) from rfl)
  have OK := Aside0.mk (show ∀ s : List Int, s.length ≤ 1000 → DS.Ok ⟨1048576, s, l0, false, false, -1⟩ from fun s h => ⟨by simp only; omega, by simp only; omega, by have := HL0.out; simp only; omega, by simp only; omega, by simp, by simp⟩)
  have GD := Aside0.mk (show Good l0 ⟨1048576, l0, l0, false, false, -1⟩ from ⟨OK.out l0 HL0.out, rfl, rfl, ⟨[], by simp⟩, [], by simp⟩)
  clear g0 g1 hB0
  go_enter Try.func5, Try.ntmps5
  go_wp2_with fail
  refine (keeps_calls _).mono ?_; rintro e w1 ⟨rfl, hb⟩; have B1 := Aside0.mk (below_step HB.out hb); clear hb HB
  go_wp2_with fail
  refine (disk_New w1 (by decide) (by decide)).mono ?_; rintro x w2 ⟨g, rfl, hg, hD, hB⟩; have D2 := Aside0.mk (hD.mono (P' := fun k => w.heap.size ≤ k) (fun k hk => Nat.le_trans B1.out.size hk)); have B2 := Aside0.mk (below_step B1.out hB); clear hg hD hB
  go_wp2_with fail
  refine (s_Write (N := w.heap.size) (b := l0) D2.out ⟨by simp, by simp, by simp, by simp, by simp, by simp⟩ (fun k hk => hk) B2.out.size (came HR0.out B2.out (fun k hk => hk)) HC0.out (by have := HL0.out; omega)).mono ?_; rintro x w3 ⟨rfl, hD, hB⟩; rw [E1.out] at hD ⊢; dsimp only at hD ⊢; have D3 := Aside0.mk hD; have B3 := Aside0.mk (B2.out.trans hB); clear hD hB
  go_wp2_with fail
  refine (s_Sync (N := w.heap.size) D3.out (OK.out [] (by simp)) (fun k hk => hk) B3.out.size).mono ?_; rintro x w4 ⟨rfl, hD, hB⟩; rw [E2.out] at hD ⊢; dsimp only at hD ⊢; have D4 := Aside0.mk hD; have B4 := Aside0.mk (B3.out.trans hB); clear hD hB
  go_wp2_with fail
  go_loopg [36] (l1.length + 1) (fun kq v36 w' => ∃ (i : Nat) (d : DS), v36 = .int .i64 (i : Int) ∧ Aside0 (i ≤ l1.length ∧ i + kq = l1.length + 1) ∧ Aside0 (Good l0 d) ∧ Aside0 (IsD (fun k => w.heap.size ≤ k) w' g d) ∧ Aside0 (Below w.heap.size w w'))
  case atStart => exact ⟨0, _, rfl, ⟨by omega, by omega⟩, GD, D4, B4⟩
  case round =>
    obtain ⟨i, d, rfl, HI, GG, D5, B5⟩ := hrel
    by_cases hi : i < l1.length
    · have d1 : decide ((i : Int) < (l1.length : Int)) = true := decide_eq_true (by omega)
      have hi0 : (0 : Int) ≤ (i : Int) := by omega
      have hi1 : (i : Int) < (l1.length : Int) := by omega
      have hre : rd_T38 l1 (i : Int) ∈ l1 := by unfold rd_T38; rw [Int.toNat_natCast, List.getD_eq_getElem?_getD, List.getElem?_eq_getElem hi]; exact List.getElem_mem hi
      have hg := HG1.out _ hre
      obtain ⟨ad, Aq, cq, rfl, x0_, x1_, x2_, x3_, hqc, hqC⟩ := at_T38 HR1.out (i : Int) hi0 hi1
      obtain ⟨q, hq⟩ : ∃ q, q = rd_T38 l1 (i : Int) := ⟨_, rfl⟩
      rw [← hq] at x0_ x1_ x2_ x3_ hqc hqC hg
      rw [Int.toNat_natCast] at x0_ x1_ x2_ x3_
      replace x0_ := cell_kept x0_ (Kept.of_below B5.out (fun _ => False)) id
      replace x1_ := cell_kept x1_ (Kept.of_below B5.out (fun _ => False)) id
      replace x2_ := cell_kept x2_ (Kept.of_below B5.out (fun _ => False)) id
      replace x3_ := cell_kept x3_ (Kept.of_below B5.out (fun _ => False)) id
      have HQC := Aside0.mk hqc; have HQ := Aside0.mk hqC
      have HN := Aside0.mk (show -9223372036854775808 ≤ q.f1 ∧ q.f1 ≤ 9223372036854775807 by have := hg.2.1; simp [Lit.wf, IntKind.min, IntKind.max, IntKind.signed, IntKind.bits] at this; omega)
      have HT := Aside0.mk (show 0 ≤ q.f3 ∧ q.f3 < 256 by have := hg.2.2.2; simp [Lit.wf, IntKind.min, IntKind.max, IntKind.signed, IntKind.bits] at this; omega)
      clear hq hre hg hqc hqC
      have b2 : wrap64 ((i : Int) + 1) = ((i + 1 : Nat) : Int) := by have := HL1.out; unfold wrap64; omega
      have q1 := eq_true hi0
      have q2 := eq_true hi1
      have q3 : decide ((0 : Int) ≤ (i : Int)) = true := decide_eq_true hi0
      have NK := Aside0.mk (show (i + 1 ≤ l1.length ∧ i + 1 + (gk - 1) = l1.length + 1) ∧ 0 < gk by have := HI.out; omega)
      clear hi
      by_cases hlong : q.f2.length > 1000
      · have u1 : decide ((q.f2.length : Int) > 1000) = true := decide_eq_true (by omega)
        have u2 : decide (1000 < (q.f2.length : Int)) = true := decide_eq_true (by omega)
        clear hlong
        go_wp2_with (first | ((with_reducible refine gate_dst (N := 8) rfl ?_); refine box_event ?hg (N := 8) ?hd (cs := #[.int .i64 0, .int .i64 0, .slice none 0 0, .int .u8 0]) (t := 38) ?hr ?_; (case hd => rfl); (case hg => rfl); (case hr => first | (go_simp; done) | (go_simp; rfl)); intro gx hg w6 hbox hb; have GX := Aside0.mk (show wr.heap.size ≤ gx ∧ w.heap.size ≤ gx from by rw [hg]; exact ⟨Nat.le_refl _, B5.out.size⟩); have B6 := Aside0.mk (below_step B5.out hb); have D6 := Aside0.mk (D5.out.bound.below hb); have X6 := Aside0.mk hbox; clear B5 D5; have zc0 : w6.cell? ⟨gx, 0, none⟩ = some (.int .i64 0) := (blk_cell X6.out 0).trans rfl; have zf0 := blk_frozen X6.out 0; have zc1 : w6.cell? ⟨gx, 1, none⟩ = some (.int .i64 0) := (blk_cell X6.out 1).trans rfl; have zf1 := blk_frozen X6.out 1; have zc2 : w6.cell? ⟨gx, 2, none⟩ = some (.slice none 0 0) := (blk_cell X6.out 2).trans rfl; have zf2 := blk_frozen X6.out 2; have zc3 : w6.cell? ⟨gx, 3, none⟩ = some (.int .u8 0) := (blk_cell X6.out 3).trans rfl; have zf3 := blk_frozen X6.out 3; clear hb hg hbox) | ((with_reducible refine gate_dst (N := 40) rfl ?_); have B7 := Aside0.mk (set4_below B6.out GX.out.2 (.int .i64 q.f0) (.int .i64 q.f1) (.slice Aq q.f2.length cq) (.int .u8 q.f3)); have D7 := Aside0.mk ((D6.out.kept (set4_kept w6 gx (.int .i64 q.f0) (.int .i64 q.f1) (.slice Aq q.f2.length cq) (.int .u8 q.f3)) (fun k hk e => by subst e; exact absurd hk.2 (Nat.not_lt.mpr GX.out.1))).mono (P' := fun k => w.heap.size ≤ k) (fun k hk => hk.1)); have X7 := Aside0.mk (set4_blk X6.out (.int .i64 q.f0) (.int .i64 q.f1) (.slice Aq q.f2.length cq) (.int .u8 q.f3)); clear B6 D6 X6 zc0 zf0 zc1 zf1 zc2 zf2 zc3 zf3; unfold set4 at B7 D7 X7; generalize ((((w6.setCell ⟨gx, 0, none⟩ (.int .i64 q.f0)).setCell ⟨gx, 1, none⟩ (.int .i64 q.f1)).setCell ⟨gx, 2, none⟩ (.slice Aq q.f2.length cq)).setCell ⟨gx, 3, none⟩ (.int .u8 q.f3)) = w7 at B7 D7 X7 ⊢; have xc0 : w7.cell? ⟨gx, 0, none⟩ = some (.int .i64 q.f0) := (blk_cell X7.out 0).trans rfl; have xf0 := blk_frozen X7.out 0; have xc1 : w7.cell? ⟨gx, 1, none⟩ = some (.int .i64 q.f1) := (blk_cell X7.out 1).trans rfl; have xf1 := blk_frozen X7.out 1; have xc2 : w7.cell? ⟨gx, 2, none⟩ = some (.slice Aq q.f2.length cq) := (blk_cell X7.out 2).trans rfl; have xf2 := blk_frozen X7.out 2; have xc3 : w7.cell? ⟨gx, 3, none⟩ = some (.int .u8 q.f3) := (blk_cell X7.out 3).trans rfl; have xf3 := blk_frozen X7.out 3))
        go_ret
        exact ⟨rfl, B7.out⟩
      have u1 : decide ((q.f2.length : Int) > 1000) = false := decide_eq_false (by omega)
      have u2 : decide (1000 < (q.f2.length : Int)) = false := decide_eq_false (by omega)
      have HLQ := Aside0.mk (show q.f2.length ≤ 1000 by omega)
      clear hlong
      by_cases hk : q.f0 = 1
      · have t1 : (q.f0 == 1) = true := beq_iff_eq.mpr hk
        clear hk
        go_wp2_with (first | ((with_reducible refine gate_dst (N := 8) rfl ?_); refine box_event ?hg (N := 8) ?hd (cs := #[.int .i64 0, .int .i64 0, .slice none 0 0, .int .u8 0]) (t := 38) ?hr ?_; (case hd => rfl); (case hg => rfl); (case hr => first | (go_simp; done) | (go_simp; rfl)); intro gx hg w6 hbox hb; have GX := Aside0.mk (show wr.heap.size ≤ gx ∧ w.heap.size ≤ gx from by rw [hg]; exact ⟨Nat.le_refl _, B5.out.size⟩); have B6 := Aside0.mk (below_step B5.out hb); have D6 := Aside0.mk (D5.out.bound.below hb); have X6 := Aside0.mk hbox; clear B5 D5; have zc0 : w6.cell? ⟨gx, 0, none⟩ = some (.int .i64 0) := (blk_cell X6.out 0).trans rfl; have zf0 := blk_frozen X6.out 0; have zc1 : w6.cell? ⟨gx, 1, none⟩ = some (.int .i64 0) := (blk_cell X6.out 1).trans rfl; have zf1 := blk_frozen X6.out 1; have zc2 : w6.cell? ⟨gx, 2, none⟩ = some (.slice none 0 0) := (blk_cell X6.out 2).trans rfl; have zf2 := blk_frozen X6.out 2; have zc3 : w6.cell? ⟨gx, 3, none⟩ = some (.int .u8 0) := (blk_cell X6.out 3).trans rfl; have zf3 := blk_frozen X6.out 3; clear hb hg hbox) | ((with_reducible refine gate_dst (N := 40) rfl ?_); have B7 := Aside0.mk (set4_below B6.out GX.out.2 (.int .i64 q.f0) (.int .i64 q.f1) (.slice Aq q.f2.length cq) (.int .u8 q.f3)); have D7 := Aside0.mk ((D6.out.kept (set4_kept w6 gx (.int .i64 q.f0) (.int .i64 q.f1) (.slice Aq q.f2.length cq) (.int .u8 q.f3)) (fun k hk e => by subst e; exact absurd hk.2 (Nat.not_lt.mpr GX.out.1))).mono (P' := fun k => w.heap.size ≤ k) (fun k hk => hk.1)); have X7 := Aside0.mk (set4_blk X6.out (.int .i64 q.f0) (.int .i64 q.f1) (.slice Aq q.f2.length cq) (.int .u8 q.f3)); clear B6 D6 X6 zc0 zf0 zc1 zf1 zc2 zf2 zc3 zf3; unfold set4 at B7 D7 X7; generalize ((((w6.setCell ⟨gx, 0, none⟩ (.int .i64 q.f0)).setCell ⟨gx, 1, none⟩ (.int .i64 q.f1)).setCell ⟨gx, 2, none⟩ (.slice Aq q.f2.length cq)).setCell ⟨gx, 3, none⟩ (.int .u8 q.f3)) = w7 at B7 D7 X7 ⊢; have xc0 : w7.cell? ⟨gx, 0, none⟩ = some (.int .i64 q.f0) := (blk_cell X7.out 0).trans rfl; have xf0 := blk_frozen X7.out 0; have xc1 : w7.cell? ⟨gx, 1, none⟩ = some (.int .i64 q.f1) := (blk_cell X7.out 1).trans rfl; have xf1 := blk_frozen X7.out 1; have xc2 : w7.cell? ⟨gx, 2, none⟩ = some (.slice Aq q.f2.length cq) := (blk_cell X7.out 2).trans rfl; have xf2 := blk_frozen X7.out 2; have xc3 : w7.cell? ⟨gx, 3, none⟩ = some (.int .u8 q.f3) := (blk_cell X7.out 3).trans rfl; have xf3 := blk_frozen X7.out 3))
        go_roundg (gk - 1)
        case measure => have := NK.out.2; omega
        case rel => exact ⟨i + 1, d, by rw [b2], ⟨NK.out.1⟩, GG, D7, B7⟩
      have t1 : (q.f0 == 1) = false := beq_eq_false_iff_ne.mpr hk
      have HK := Aside0.mk hk
      clear hk
      go_wp2_with (first | ((with_reducible refine gate_dst (N := 8) rfl ?_); refine box_event ?hg (N := 8) ?hd (cs := #[.int .i64 0, .int .i64 0, .slice none 0 0, .int .u8 0]) (t := 38) ?hr ?_; (case hd => rfl); (case hg => rfl); (case hr => first | (go_simp; done) | (go_simp; rfl)); intro gx hg w6 hbox hb; have GX := Aside0.mk (show wr.heap.size ≤ gx ∧ w.heap.size ≤ gx from by rw [hg]; exact ⟨Nat.le_refl _, B5.out.size⟩); have B6 := Aside0.mk (below_step B5.out hb); have D6 := Aside0.mk (D5.out.bound.below hb); have X6 := Aside0.mk hbox; clear B5 D5; have zc0 : w6.cell? ⟨gx, 0, none⟩ = some (.int .i64 0) := (blk_cell X6.out 0).trans rfl; have zf0 := blk_frozen X6.out 0; have zc1 : w6.cell? ⟨gx, 1, none⟩ = some (.int .i64 0) := (blk_cell X6.out 1).trans rfl; have zf1 := blk_frozen X6.out 1; have zc2 : w6.cell? ⟨gx, 2, none⟩ = some (.slice none 0 0) := (blk_cell X6.out 2).trans rfl; have zf2 := blk_frozen X6.out 2; have zc3 : w6.cell? ⟨gx, 3, none⟩ = some (.int .u8 0) := (blk_cell X6.out 3).trans rfl; have zf3 := blk_frozen X6.out 3; clear hb hg hbox) | ((with_reducible refine gate_dst (N := 40) rfl ?_); have B7 := Aside0.mk (set4_below B6.out GX.out.2 (.int .i64 q.f0) (.int .i64 q.f1) (.slice Aq q.f2.length cq) (.int .u8 q.f3)); have D7 := Aside0.mk ((D6.out.kept (set4_kept w6 gx (.int .i64 q.f0) (.int .i64 q.f1) (.slice Aq q.f2.length cq) (.int .u8 q.f3)) (fun k hk e => by subst e; exact absurd hk.2 (Nat.not_lt.mpr GX.out.1))).mono (P' := fun k => w.heap.size ≤ k) (fun k hk => hk.1)); have X7 := Aside0.mk (set4_blk X6.out (.int .i64 q.f0) (.int .i64 q.f1) (.slice Aq q.f2.length cq) (.int .u8 q.f3)); clear B6 D6 X6 zc0 zf0 zc1 zf1 zc2 zf2 zc3 zf3; unfold set4 at B7 D7 X7; generalize ((((w6.setCell ⟨gx, 0, none⟩ (.int .i64 q.f0)).setCell ⟨gx, 1, none⟩ (.int .i64 q.f1)).setCell ⟨gx, 2, none⟩ (.slice Aq q.f2.length cq)).setCell ⟨gx, 3, none⟩ (.int .u8 q.f3)) = w7 at B7 D7 X7 ⊢; have xc0 : w7.cell? ⟨gx, 0, none⟩ = some (.int .i64 q.f0) := (blk_cell X7.out 0).trans rfl; have xf0 := blk_frozen X7.out 0; have xc1 : w7.cell? ⟨gx, 1, none⟩ = some (.int .i64 q.f1) := (blk_cell X7.out 1).trans rfl; have xf1 := blk_frozen X7.out 1; have xc2 : w7.cell? ⟨gx, 2, none⟩ = some (.slice Aq q.f2.length cq) := (blk_cell X7.out 2).trans rfl; have xf2 := blk_frozen X7.out 2; have xc3 : w7.cell? ⟨gx, 3, none⟩ = some (.int .u8 q.f3) := (blk_cell X7.out 3).trans rfl; have xf3 := blk_frozen X7.out 3))
      refine (do_zero (N := w.heap.size) (kind := q.f0) (n := q.f1) (turn := q.f3) (x := q.f2) D7.out GG.out.ok GG.out.le B7.out.size (came HQ.out B7.out (fun k hk => hk)) HQC.out HLQ.out HK.out HT.out).mono ?_; rintro e w8 ⟨⟨v8, rfl⟩, hD, hB⟩
      have D8 := Aside0.mk hD; have B8 := Aside0.mk (B7.out.trans hB); have G8 := Aside0.mk (good_doing GG.out q.f0 q.f1 q.f2 q.f3 HN.out)
      clear hD hB
      go_wp2_with fail
      go_roundg (gk - 1)
      case measure => have := NK.out.2; omega
      case rel => exact ⟨i + 1, _, by rw [b2], ⟨NK.out.1⟩, G8, D8, B8⟩
    · have d1 : decide ((i : Int) < (l1.length : Int)) = false := decide_eq_false (by omega)
      have d2 := eq_false (show ¬ (i : Int) < (l1.length : Int) by omega)
      clear hi
      go_wp2_with fail
      refine (s_Up (N := w.heap.size) D5.out GG.out.ok (fun k hk => hk) B5.out.size).mono ?_; rintro x w6 ⟨rfl, hD, hB⟩; have D6 := Aside0.mk hD; have B6 := Aside0.mk (B5.out.trans hB); have G6 := Aside0.mk (good_up GG.out); clear hD hB
      go_wp2_with fail
      refine (d_Read D6.out G6.out.1.ok G6.out.2).mono ?_; rintro x w7 ⟨v7, rfl, hO, hD, hB⟩
      obtain ⟨A7, c7, rfl, hc7, hC7⟩ := Kd.R_reads hO
      have B7 := Aside0.mk (below_step B6.out hB)
      obtain ⟨al, hal⟩ : ∃ a, a = d.up.all := ⟨_, rfl⟩
      rw [← hal] at hc7 hC7 ⊢
      have hpre : l0.length ≤ al.length ∧ al.take l0.length = l0 := by
        obtain ⟨-, -, -, ⟨s, h4⟩, r, h5⟩ := G6.out.1
        rw [hal, h5, h4, List.append_assoc]
        exact ⟨by rw [List.length_append]; omega, by rw [List.take_left]⟩
      have f0 := Kd.C_take (m := l0.length) hC7 hpre.1
      rw [hpre.2] at f0
      have F0 := Aside0.mk f0
      have F1 := Aside0.mk (Kd.C_below HR0.out B7.out)
      have n1 : decide ((al.length : Int) ≥ (l0.length : Int)) = true := decide_eq_true (by have := hpre.1; omega)
      have n2 : decide ((l0.length : Int) ≤ (al.length : Int)) = true := decide_eq_true (by have := hpre.1; omega)
      have n5 : decide (l0.length ≤ al.length) = true := decide_eq_true hpre.1
      have n6 := eq_true hpre.1
      have n7 := eq_true (show (l0.length : Int) ≤ (al.length : Int) by have := hpre.1; omega)
      have n3 := eq_true (show (l0.length : Int) ≤ (c7 : Int) by have := hpre.1; omega)
      have n4 := eq_true (show l0.length ≤ c7 by have := hpre.1; omega)
      clear hO hD hB hc7 hC7 hal hpre f0
      go_wp2_with fail
      refine start_ (n := 20) (S := fun w' => (convert 22 9 (.slice A7 l0.length c7)).run Try.prog w' = .ok (.string (strOfNums l0)) w' ∧ (convert 22 9 (.slice A0 l0.length c0)).run Try.prog w' = .ok (.string (strOfNums l0)) w') (ds := []) #[false, false, false, false, false, false, false, false, false, false, false, false, false, false, false, false, false, false, false, false] (by kernel_rfl) rfl rfl ⟨(Kd.C_string (P := Try.prog) Try.underlying22 Try.underlying5 Try.underlying9 (Kd.C_below F0.out (below_drew (Below.refl _ _)))), (Kd.C_string (P := Try.prog) Try.underlying22 Try.underlying5 Try.underlying9 (Kd.C_below F1.out (below_drew (Below.refl _ _))))⟩ (fun hHeld => ?_)
      refine pure_ (i := 0) (N := some 59) (v := ?_) (a' := ?_) #[true, false, false, false, false, false, false, false, false, false, false, false, false, false, false, false, false, false, false, false] rfl rfl (by kernel_rfl) (fun _ _ _ h => h) (Or.inl ⟨by rfl, ?_⟩) ?_ ?_
      rotate_left
      · intro w'
        go_simp
        with_reducible rfl
      rotate_left
      · simp only [Act.put, List.setIfInBounds_toArray, List.set_cons_zero, List.set_cons_succ, i64_w, i32_w]
        rfl
      refine pure_ (i := 1) (N := some 60) (v := ?_) (a' := ?_) #[true, true, false, false, false, false, false, false, false, false, false, false, false, false, false, false, false, false, false, false] rfl rfl (by kernel_rfl) (fun _ _ _ h => h) (Or.inl ⟨by rfl, ?_⟩) ?_ ?_
      rotate_left
      · intro w'
        go_simp
        with_reducible rfl
      rotate_left
      · simp only [Act.put, List.setIfInBounds_toArray, List.set_cons_zero, List.set_cons_succ, i64_w, i32_w]
        rfl
      refine pure_ (i := 2) (N := some 61) (v := ?_) (a' := ?_) #[true, true, true, false, false, false, false, false, false, false, false, false, false, false, false, false, false, false, false, false] rfl rfl (by kernel_rfl) (fun _ _ _ h => h) (Or.inl ⟨by rfl, ?_⟩) ?_ ?_
      rotate_left
      · intro w'
        go_simp
        with_reducible rfl
      rotate_left
      · simp only [Act.put, List.setIfInBounds_toArray, List.set_cons_zero, List.set_cons_succ, i64_w, i32_w]
        rfl
      refine pure_ (i := 3) (N := some 62) (v := ?_) (a' := ?_) #[true, true, true, true, false, false, false, false, false, false, false, false, false, false, false, false, false, false, false, false] rfl rfl (by kernel_rfl) (fun _ _ _ h => h) (Or.inl ⟨by rfl, ?_⟩) ?_ ?_
      rotate_left
      · intro w'
        go_simp
        with_reducible rfl
      rotate_left
      · simp only [Act.put, List.setIfInBounds_toArray, List.set_cons_zero, List.set_cons_succ, i64_w, i32_w]
        rfl
      refine pure_ (i := 4) (N := some 63) (v := ?_) (a' := ?_) #[true, true, true, true, true, false, false, false, false, false, false, false, false, false, false, false, false, false, false, false] rfl rfl (by kernel_rfl) (fun _ _ _ h => h) (Or.inl ⟨by rfl, ?_⟩) ?_ ?_
      rotate_left
      · intro w'
        go_simp
        with_reducible rfl
      rotate_left
      · simp only [Act.put, List.setIfInBounds_toArray, List.set_cons_zero, List.set_cons_succ, i64_w, i32_w]
        rfl
      refine pure_ (i := 5) (N := some 64) (v := ?_) (a' := ?_) #[true, true, true, true, true, true, false, false, false, false, false, false, false, false, false, false, false, false, false, false] rfl rfl (by kernel_rfl) (fun _ _ _ h => h) (Or.inl ⟨by rfl, ?_⟩) ?_ ?_
      rotate_left
      · intro w'
        go_simp
        with_reducible rfl
      rotate_left
      · simp only [Act.put, List.setIfInBounds_toArray, List.set_cons_zero, List.set_cons_succ, i64_w, i32_w]
        rfl
      refine pure_ (i := 6) (N := some 65) (v := ?_) (a' := ?_) #[true, true, true, true, true, true, true, false, false, false, false, false, false, false, false, false, false, false, false, false] rfl rfl (by kernel_rfl) (fun _ _ _ h => h) (Or.inl ⟨by rfl, ?_⟩) ?_ ?_
      rotate_left
      · intro w'
        go_simp
        with_reducible rfl
      rotate_left
      · simp only [Act.put, List.setIfInBounds_toArray, List.set_cons_zero, List.set_cons_succ, i64_w, i32_w]
        rfl
      refine pure_ (i := 7) (N := some 66) (v := ?_) (a' := ?_) #[true, true, true, true, true, true, true, true, false, false, false, false, false, false, false, false, false, false, false, false] rfl rfl (by kernel_rfl) (fun _ _ _ h => h) (Or.inl ⟨by rfl, ?_⟩) ?_ ?_
      rotate_left
      · intro w'
        go_simp
        with_reducible rfl
      rotate_left
      · simp only [Act.put, List.setIfInBounds_toArray, List.set_cons_zero, List.set_cons_succ, i64_w, i32_w]
        rfl
      refine pure_ (i := 8) (N := some 67) (v := ?_) (a' := ?_) #[true, true, true, true, true, true, true, true, true, false, false, false, false, false, false, false, false, false, false, false] rfl rfl (by kernel_rfl) (fun _ _ _ h => h) (Or.inl ⟨by rfl, ?_⟩) ?_ ?_
      rotate_left
      · intro w'
        go_simp
        with_reducible rfl
      rotate_left
      · simp only [Act.put, List.setIfInBounds_toArray, List.set_cons_zero, List.set_cons_succ, i64_w, i32_w]
        rfl
      refine pure_ (i := 9) (N := some 68) (v := ?_) (a' := ?_) #[true, true, true, true, true, true, true, true, true, true, false, false, false, false, false, false, false, false, false, false] rfl rfl (by kernel_rfl) (fun _ _ _ h => h) (Or.inl ⟨by rfl, ?_⟩) ?_ ?_
      rotate_left
      · intro w'
        go_simp
        with_reducible rfl
      rotate_left
      · simp only [Act.put, List.setIfInBounds_toArray, List.set_cons_zero, List.set_cons_succ, i64_w, i32_w]
        rfl
      refine pure_ (i := 10) (N := some 69) (v := ?_) (a' := ?_) #[true, true, true, true, true, true, true, true, true, true, true, false, false, false, false, false, false, false, false, false] rfl rfl (by kernel_rfl) (fun _ _ _ h => h) (Or.inl ⟨by rfl, ?_⟩) ?_ ?_
      rotate_left
      · intro w'
        go_simp
        with_reducible rfl
      rotate_left
      · simp only [Act.put, List.setIfInBounds_toArray, List.set_cons_zero, List.set_cons_succ, i64_w, i32_w]
        rfl
      refine pure_ (i := 11) (N := some 70) (v := ?_) (a' := ?_) #[true, true, true, true, true, true, true, true, true, true, true, true, false, false, false, false, false, false, false, false] rfl rfl (by kernel_rfl) (fun _ _ _ h => h) (Or.inl ⟨by rfl, ?_⟩) ?_ ?_
      rotate_left
      · intro w'
        go_simp
        with_reducible rfl
      rotate_left
      · simp only [Act.put, List.setIfInBounds_toArray, List.set_cons_zero, List.set_cons_succ, i64_w, i32_w]
        rfl
      refine pure_ (i := 12) (N := some 71) (v := ?_) (a' := ?_) #[true, true, true, true, true, true, true, true, true, true, true, true, true, false, false, false, false, false, false, false] rfl rfl (by kernel_rfl) (fun _ _ _ h => h) (Or.inl ⟨by rfl, ?_⟩) ?_ ?_
      rotate_left
      · intro w'
        go_simp
        with_reducible rfl
      rotate_left
      · simp only [Act.put, List.setIfInBounds_toArray, List.set_cons_zero, List.set_cons_succ, i64_w, i32_w]
        rfl
      refine pure_ (i := 13) (N := some 72) (v := ?_) (a' := ?_) #[true, true, true, true, true, true, true, true, true, true, true, true, true, true, false, false, false, false, false, false] rfl rfl (by kernel_rfl) (fun _ _ _ h => h) (Or.inl ⟨by rfl, ?_⟩) ?_ ?_
      rotate_left
      · intro w'
        go_simp
        with_reducible rfl
      rotate_left
      · simp only [Act.put, List.setIfInBounds_toArray, List.set_cons_zero, List.set_cons_succ, i64_w, i32_w]
        rfl
      refine pure_ (i := 15) (N := some 74) (v := ?_) (a' := ?_) #[true, true, true, true, true, true, true, true, true, true, true, true, true, true, false, true, false, false, false, false] rfl rfl (by kernel_rfl) (fun _ _ _ h => h) (Or.inl ⟨by rfl, ?_⟩) ?_ ?_
      rotate_left
      · intro w'
        go_simp
        with_reducible rfl
      rotate_left
      · simp only [Act.put, List.setIfInBounds_toArray, List.set_cons_zero, List.set_cons_succ, i64_w, i32_w]
        rfl
      refine take_ (i := 14) (N := some 73) (v := ?_) (a' := ?_) #[true, true, true, true, true, true, true, true, true, true, true, true, true, true, true, true, false, false, false, false] rfl rfl (by kernel_rfl) (fun _ _ _ h => h) (Or.inl ⟨by rfl, ?_⟩) hHeld ?_ ?_
      rotate_left
      · rintro w' ⟨s0, s1⟩
        go_simp
        with_reducible rfl
      rotate_left
      · simp only [Act.put, List.setIfInBounds_toArray, List.set_cons_zero, List.set_cons_succ, i64_w, i32_w]
        rfl
      refine take_ (i := 16) (N := some 75) (v := ?_) (a' := ?_) #[true, true, true, true, true, true, true, true, true, true, true, true, true, true, true, true, true, false, false, false] rfl rfl (by kernel_rfl) (fun _ _ _ h => h) (Or.inl ⟨by rfl, ?_⟩) hHeld ?_ ?_
      rotate_left
      · rintro w' ⟨s0, s1⟩
        go_simp
        with_reducible rfl
      rotate_left
      · simp only [Act.put, List.setIfInBounds_toArray, List.set_cons_zero, List.set_cons_succ, i64_w, i32_w]
        rfl
      refine pure_ (i := 17) (N := some 76) (v := ?_) (a' := ?_) #[true, true, true, true, true, true, true, true, true, true, true, true, true, true, true, true, true, true, false, false] rfl rfl (by kernel_rfl) (fun _ _ _ h => h) (Or.inl ⟨by rfl, ?_⟩) ?_ ?_
      rotate_left
      · intro w'
        go_simp
        with_reducible rfl
      rotate_left
      · simp only [Act.put, List.setIfInBounds_toArray, List.set_cons_zero, List.set_cons_succ, i64_w, i32_w]
        rfl
      refine pure_ (i := 18) (N := some 77) (v := ?_) (a' := ?_) #[true, true, true, true, true, true, true, true, true, true, true, true, true, true, true, true, true, true, true, false] rfl rfl (by kernel_rfl) (fun _ _ _ h => h) (Or.inl ⟨by rfl, ?_⟩) ?_ ?_
      rotate_left
      · intro w'
        go_simp
        with_reducible rfl
      rotate_left
      · simp only [Act.put, List.setIfInBounds_toArray, List.set_cons_zero, List.set_cons_succ, i64_w, i32_w]
        rfl
      refine pure_ (i := 19) (N := some 4) (v := ?_) (a' := ?_) #[true, true, true, true, true, true, true, true, true, true, true, true, true, true, true, true, true, true, true, true] rfl rfl (by kernel_rfl) (fun _ _ _ h => h) (Or.inl ⟨by rfl, ?_⟩) ?_ ?_
      rotate_left
      · intro w'
        go_simp
        with_reducible rfl
      rotate_left
      · simp only [Act.put, List.setIfInBounds_toArray, List.set_cons_zero, List.set_cons_succ, i64_w, i32_w]
        rfl
      refine done_ (by kernel_rfl) ?_

      go_wp2
      go_ret
      exact ⟨rfl, below_step B7.out (below_drew (Below.refl _ _))⟩
end Go.Proofs.Ythpdmjpimeibnaa.Pure
