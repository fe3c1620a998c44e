/-
  DiskRenews, walked by hand: all is renewed at once, or not at all.
-/
import Derived.Test.YthpdmjpimeibnaaODisk6
import Derived.Test.YthpdmjpimeibnaaHKeeps
import Derived.Test.YthpdmjpimeibnaaRowDiskRenews
namespace Go.Proofs.Ythpdmjpimeibnaa.Pure
open Go.RowKit Go.Proofs.Ythpdmjpimeibnaa.M Go.Proofs.YthpdmjpimeibnaaW.PrintWords Go.Proofs.YthpdmjpimeibnaaW.PrintLast Go.Proofs.YthpdmjpimeibnaaW.PrintMore
set_option linter.unusedVariables false
set_option linter.unusedSimpArgs false
theorem crash_same {d : DS} {keep turn : Int} (hr : d.renew = false) (hs : d.sure = d.all) : d.crash keep turn = { d with down := true, fuse := -1 } := by
  have ht : d.torn keep = d.all.length := by unfold DS.torn; rw [hs]; omega
  unfold DS.crash
  rw [if_neg (by simp [hr]), ht, if_neg (by rw [hs]; omega), List.take_length]
set_option maxHeartbeats 4000000 in
set_option maxRecDepth 100000 in
theorem DiskRenews_hand (A0 : Option Addr) (c0 : Nat) (l0 : List Int) (A1 : Option Addr) (c1 : Nat) (l1 : List Int) (fuse : Int) (sync : Bool) (w : World)
    (hr0 : Kd.C (Kd.int .u8) w A0 l0.length l0) (hc0 : l0.length ≤ c0) (hr1 : Kd.C (Kd.int .u8) w A1 l1.length l1) (hc1 : l1.length ≤ c1)
    (g0 : (l0.length * 1 ≤ 140737488351232 ∧ ∀ x ∈ l0, (Lit.int .u8 x).wf = true) ∧ (l1.length * 1 ≤ 140737488351232 ∧ ∀ x ∈ l1, (Lit.int .u8 x).wf = true)) (g1 : (Lit.int .i64 fuse).wf = true) :
    Calls Try.prog 6 #[.agg #[.slice A0 l0.length c0, .slice A1 l1.length c1], .int .i64 fuse, .bool sync] w fun e w' => e = .returned (.bool true) ∧ Below w.heap.size w w' := by
  have hF : -9223372036854775808 ≤ fuse ∧ fuse ≤ 9223372036854775807 := by simp [Lit.wf, IntKind.min, IntKind.max, IntKind.signed, IntKind.bits] at g1; omega
  have HR0 := Aside0.mk hr0; have HC0 := Aside0.mk hc0; have HR1 := Aside0.mk hr1; have HC1 := Aside0.mk hc1; clear hr0 hc0 hr1 hc1
  by_cases h0_ : l0.length > 1000
  · have c0_ : decide (1000 < (l0.length : Int)) = true := decide_eq_true (by omega)
    have c1_ : decide ((l0.length : Int) > 1000) = true := decide_eq_true (by omega)
    clear g0 g1
    go_enter Try.func6, Try.ntmps6
    go_wp2_with (first | ((with_reducible refine gate_dst (N := 3) rfl ?_); refine box_event ?hg (N := 3) ?hd (cs := #[.slice A0 l0.length c0, .slice A1 l1.length c1]) (t := 23) ?hr ?_; (case hd => rfl); (case hg => rfl); (case hr => first | (go_simp; done) | (go_simp; rfl)); intro gx hg wx hbox hb; have BX := Aside0.mk hb; have KB := Aside0.mk hbox; have GX := Aside0.mk (show w.heap.size ≤ gx from by rw [hg]; exact Nat.le_refl _); clear hb hg hbox) | (go_at_call 12; refine (keeps_calls _).mono ?_; rintro e w1 ⟨rfl, hb⟩; have B1 := Aside0.mk (below_step BX.out hb); have KB1 := Aside0.mk (blk_below KB.out hb); have b1x0 : w1.cell? ⟨gx, 0, none⟩ = some (.slice A0 l0.length c0) := (blk_cell KB1.out 0).trans rfl; have b1x1 : w1.cell? ⟨gx, 1, none⟩ = some (.slice A1 l1.length c1) := (blk_cell KB1.out 1).trans rfl; clear hb))
    repeat (go_quiet (first | fail))
    have B2 := Aside0.mk (below_step B1.out (pw_below_drewN (Below.refl w1.heap.size w1) nq))
    generalize w1.drewN nq = w2 at B2 ⊢
    go_wp2_with fail
    go_ret
    exact ⟨rfl, B2.out⟩
  have c0a_ : decide (1000 < (l0.length : Int)) = false := decide_eq_false (by omega)
  have c0b_ : decide ((l0.length : Int) > 1000) = false := decide_eq_false (by omega)
  have HL0 := Aside0.mk (show l0.length ≤ 1000 by omega)
  clear h0_
  by_cases h1_ : l1.length > 1000
  · have c0_ : decide (1000 < (l1.length : Int)) = true := decide_eq_true (by omega)
    have c1_ : decide ((l1.length : Int) > 1000) = true := decide_eq_true (by omega)
    clear g0 g1
    go_enter Try.func6, Try.ntmps6
    go_wp2_with (first | ((with_reducible refine gate_dst (N := 3) rfl ?_); refine box_event ?hg (N := 3) ?hd (cs := #[.slice A0 l0.length c0, .slice A1 l1.length c1]) (t := 23) ?hr ?_; (case hd => rfl); (case hg => rfl); (case hr => first | (go_simp; done) | (go_simp; rfl)); intro gx hg wx hbox hb; have BX := Aside0.mk hb; have KB := Aside0.mk hbox; have GX := Aside0.mk (show w.heap.size ≤ gx from by rw [hg]; exact Nat.le_refl _); clear hb hg hbox) | (go_at_call 12; refine (keeps_calls _).mono ?_; rintro e w1 ⟨rfl, hb⟩; have B1 := Aside0.mk (below_step BX.out hb); have KB1 := Aside0.mk (blk_below KB.out hb); have b1x0 : w1.cell? ⟨gx, 0, none⟩ = some (.slice A0 l0.length c0) := (blk_cell KB1.out 0).trans rfl; have b1x1 : w1.cell? ⟨gx, 1, none⟩ = some (.slice A1 l1.length c1) := (blk_cell KB1.out 1).trans rfl; clear hb))
    repeat (go_quiet (first | fail))
    have B2 := Aside0.mk (below_step B1.out (pw_below_drewN (Below.refl w1.heap.size w1) nq))
    generalize w1.drewN nq = w2 at B2 ⊢
    go_wp2_with fail
    go_ret
    exact ⟨rfl, B2.out⟩
  have c1a_ : decide (1000 < (l1.length : Int)) = false := decide_eq_false (by omega)
  have c1b_ : decide ((l1.length : Int) > 1000) = false := decide_eq_false (by omega)
  have HL1 := Aside0.mk (show l1.length ≤ 1000 by omega)
  clear h1_
  have OK := Aside0.mk (show ∀ (s a : List Int) r dn f, s.length ≤ 1000 → a.length ≤ 1000 → -1 ≤ f → f ≤ 9223372036854775807 → DS.Ok ⟨5000, s, a, r, dn, f⟩ from fun s a r dn f h1 h2 h3 h4 => ⟨by simp only; omega, by simp only; omega, by simp only; omega, by simp only; omega, by simp only; omega, by simp only; omega⟩)
  have E1 := Aside0.mk (show DS.write ⟨5000, [], [], false, false, -1⟩ l0 = (⟨5000, [], l0, false, false, -1⟩, 0) from write_free rfl (by simp only; omega) (by have := HL0.out; simp only [List.length_nil]; omega))
  have E2 := Aside0.mk (show DS.sync ⟨5000, [], l0, false, false, -1⟩ = (⟨5000, l0, l0, false, false, -1⟩, 0) from rfl)
  obtain ⟨f0, hf0⟩ : ∃ f0, f0 = mx fuse (-1) := ⟨_, rfl⟩
  have hf1 : -1 ≤ f0 ∧ f0 ≤ 9223372036854775807 ∧ (0 ≤ fuse → f0 = fuse) ∧ (fuse < 0 → f0 < 0) := by rw [hf0]; unfold mx; split <;> omega
  have HF0 := Aside0.mk hf0
  have HF1 := Aside0.mk hf1
  have hl1 := HL1.out
  clear g0 g1 hF hf0
  by_cases hneg : fuse < 0
  · skip
    obtain ⟨f2, hf2⟩ : ∃ f2, f2 = f0 := ⟨_, rfl⟩
    have HF2 := Aside0.mk (show -1 ≤ f2 ∧ f2 ≤ 9223372036854775807 by have := hf1.2.2; omega)
    have hB : DS.burn ⟨5000, l0, l0, false, false, f0⟩ (l1.length : Int) = (⟨5000, l0, l0, false, false, f2⟩, (l1.length : Int), true) := by
      have := hf1.2.2
      unfold DS.burn
      simp only
      rw [if_pos (show f0 < 0 by omega), hf2]
    have hE : DS.renewW ⟨5000, l0, l0, false, false, f0⟩ l1 = (⟨5000, l0, l1, true, false, f2⟩, 0) := by
      unfold DS.renewW
      rw [hB]
      simp only [Bool.false_eq_true, if_false, if_true]
      rw [if_neg (show ¬ (l1.length : Int) > 5000 by omega)]
    have E4 := Aside0.mk hE
    have t1 : decide (fuse ≥ 0) = false := decide_eq_false (by omega)
    have t2 : decide (0 ≤ fuse) = false := decide_eq_false (by omega)
    cases sync
    · have E6 := Aside0.mk (show DS.crash ⟨5000, l0, l1, true, false, f2⟩ 9999 1 = ⟨5000, l0, l0, false, true, -1⟩ from rfl)
      have E7 := Aside0.mk (show DS.up ⟨5000, l0, l0, false, true, -1⟩ = ⟨5000, l0, l0, false, false, -1⟩ from rfl)
      clear hf1 hf2 hB hE hl1 hneg
      go_enter Try.func6, Try.ntmps6
      go_wp2_with (first | ((with_reducible refine gate_dst (N := 3) rfl ?_); refine box_event ?hg (N := 3) ?hd (cs := #[.slice A0 l0.length c0, .slice A1 l1.length c1]) (t := 23) ?hr ?_; (case hd => rfl); (case hg => rfl); (case hr => first | (go_simp; done) | (go_simp; rfl)); intro gx hg wx hbox hb; have BX := Aside0.mk hb; have KB := Aside0.mk hbox; have GX := Aside0.mk (show w.heap.size ≤ gx from by rw [hg]; exact Nat.le_refl _); clear hb hg hbox) | (go_at_call 12; refine (keeps_calls _).mono ?_; rintro e w1 ⟨rfl, hb⟩; have B1 := Aside0.mk (below_step BX.out hb); have KB1 := Aside0.mk (blk_below KB.out hb); have b1x0 : w1.cell? ⟨gx, 0, none⟩ = some (.slice A0 l0.length c0) := (blk_cell KB1.out 0).trans rfl; have b1x1 : w1.cell? ⟨gx, 1, none⟩ = some (.slice A1 l1.length c1) := (blk_cell KB1.out 1).trans rfl; clear hb))
      repeat (go_quiet (first | fail))
      have B2 := Aside0.mk (below_step B1.out (pw_below_drewN (Below.refl w1.heap.size w1) nq))
      generalize w1.drewN nq = w2 at B2 ⊢
      go_wp2_with fail
      refine (disk_New w2 (by decide) (by decide)).mono ?_; rintro x w3 ⟨g, rfl, hg, hD, hB⟩; have D3 := Aside0.mk (hD.mono (P' := fun k => w.heap.size ≤ k) (fun k hk => Nat.le_trans B2.out.size hk)); have B3 := Aside0.mk (below_step B2.out hB); clear hg hD hB b1x0 b1x1
      go_wp2_with fail
      refine (s_Write (N := w.heap.size) D3.out (OK.out _ _ _ _ _ (by decide) (by decide) (by decide) (by decide)) (fun k hk => hk) B3.out.size (came HR0.out B3.out (fun k hk => hk)) HC0.out (by have := HL0.out; omega)).mono ?_; rintro x w4 ⟨rfl, hD, hB⟩; rw [E1.out] at hD ⊢; dsimp only at hD ⊢; have D4 := Aside0.mk hD; have B4 := Aside0.mk (B3.out.trans hB); clear hD hB
      go_wp2_with fail
      refine (s_Sync (N := w.heap.size) D4.out (OK.out _ _ _ _ _ (by decide) HL0.out (by decide) (by decide)) (fun k hk => hk) B4.out.size).mono ?_; rintro x w5 ⟨rfl, hD, hB⟩; rw [E2.out] at hD ⊢; dsimp only at hD ⊢; have D5 := Aside0.mk hD; have B5 := Aside0.mk (B4.out.trans hB); clear hD hB
      go_wp2_with fail
      refine (s_Fuse (N := w.heap.size) D5.out (fun k hk => hk) B5.out.size).mono ?_; rintro x w6 ⟨rfl, hD, hB⟩; rw [← HF0.out] at hD; dsimp only at hD; have D6 := Aside0.mk hD; have B6 := Aside0.mk (B5.out.trans hB); clear hD hB
      go_wp2_with fail
      refine (s_Renew (N := w.heap.size) D6.out (OK.out _ _ _ _ _ HL0.out HL0.out HF1.out.1 HF1.out.2.1) (fun k hk => hk) B6.out.size (came HR1.out B6.out (fun k hk => hk)) HC1.out (by have := HL1.out; omega)).mono ?_; rintro x w7 ⟨rfl, hD, hB⟩; rw [E4.out] at hD ⊢; dsimp only at hD ⊢; have D7 := Aside0.mk hD; have B7 := Aside0.mk (B6.out.trans hB); clear hD hB
      go_wp2_with fail
      refine (s_Crash (N := w.heap.size) D7.out (OK.out _ _ _ _ _ HL0.out HL1.out HF2.out.1 HF2.out.2) (fun h => absurd h (by simp)) (by decide) (fun k hk => hk) B7.out.size).mono ?_; rintro x w9 ⟨rfl, hD, hB⟩; rw [E6.out] at hD; have D9 := Aside0.mk hD; have B9 := Aside0.mk (B7.out.trans hB); clear hD hB
      go_wp2_with fail
      refine (s_Up (N := w.heap.size) D9.out (OK.out _ _ _ _ _ HL0.out HL0.out (by decide) (by decide)) (fun k hk => hk) B9.out.size).mono ?_; rintro x w10 ⟨rfl, hD, hB⟩; rw [E7.out] at hD; have D10 := Aside0.mk hD; have B10 := Aside0.mk (B9.out.trans hB); clear hD hB
      go_wp2_with fail
      refine (d_Read D10.out (OK.out _ _ _ _ _ HL0.out HL0.out (by decide) (by decide)) rfl).mono ?_; rintro x w11 ⟨v, rfl, hO, hD, hB⟩; have B11 := Aside0.mk (below_step B10.out hB); have hcv := own_string (P := Try.prog) Try.underlying22 Try.underlying5 Try.underlying9 (Kd.own_of_R hO); have hcw := Kd.C_string (P := Try.prog) (c := c0) Try.underlying22 Try.underlying5 Try.underlying9 (Kd.C_below HR0.out B11.out); clear hO hD hB
      go_wp2_with fail
      go_ret
      exact ⟨rfl, B11.out⟩
    · have E5 := Aside0.mk (show DS.sync ⟨5000, l0, l1, true, false, f2⟩ = (⟨5000, l1, l1, false, false, f2⟩, 0) from rfl)
      have E6 := Aside0.mk (show DS.crash ⟨5000, l1, l1, false, false, f2⟩ 9999 1 = ⟨5000, l1, l1, false, true, -1⟩ from crash_same rfl rfl)
      have E7 := Aside0.mk (show DS.up ⟨5000, l1, l1, false, true, -1⟩ = ⟨5000, l1, l1, false, false, -1⟩ from rfl)
      clear hf1 hf2 hB hE hl1 hneg
      go_enter Try.func6, Try.ntmps6
      go_wp2_with (first | ((with_reducible refine gate_dst (N := 3) rfl ?_); refine box_event ?hg (N := 3) ?hd (cs := #[.slice A0 l0.length c0, .slice A1 l1.length c1]) (t := 23) ?hr ?_; (case hd => rfl); (case hg => rfl); (case hr => first | (go_simp; done) | (go_simp; rfl)); intro gx hg wx hbox hb; have BX := Aside0.mk hb; have KB := Aside0.mk hbox; have GX := Aside0.mk (show w.heap.size ≤ gx from by rw [hg]; exact Nat.le_refl _); clear hb hg hbox) | (go_at_call 12; refine (keeps_calls _).mono ?_; rintro e w1 ⟨rfl, hb⟩; have B1 := Aside0.mk (below_step BX.out hb); have KB1 := Aside0.mk (blk_below KB.out hb); have b1x0 : w1.cell? ⟨gx, 0, none⟩ = some (.slice A0 l0.length c0) := (blk_cell KB1.out 0).trans rfl; have b1x1 : w1.cell? ⟨gx, 1, none⟩ = some (.slice A1 l1.length c1) := (blk_cell KB1.out 1).trans rfl; clear hb))
      repeat (go_quiet (first | fail))
      have B2 := Aside0.mk (below_step B1.out (pw_below_drewN (Below.refl w1.heap.size w1) nq))
      generalize w1.drewN nq = w2 at B2 ⊢
      go_wp2_with fail
      refine (disk_New w2 (by decide) (by decide)).mono ?_; rintro x w3 ⟨g, rfl, hg, hD, hB⟩; have D3 := Aside0.mk (hD.mono (P' := fun k => w.heap.size ≤ k) (fun k hk => Nat.le_trans B2.out.size hk)); have B3 := Aside0.mk (below_step B2.out hB); clear hg hD hB b1x0 b1x1
      go_wp2_with fail
      refine (s_Write (N := w.heap.size) D3.out (OK.out _ _ _ _ _ (by decide) (by decide) (by decide) (by decide)) (fun k hk => hk) B3.out.size (came HR0.out B3.out (fun k hk => hk)) HC0.out (by have := HL0.out; omega)).mono ?_; rintro x w4 ⟨rfl, hD, hB⟩; rw [E1.out] at hD ⊢; dsimp only at hD ⊢; have D4 := Aside0.mk hD; have B4 := Aside0.mk (B3.out.trans hB); clear hD hB
      go_wp2_with fail
      refine (s_Sync (N := w.heap.size) D4.out (OK.out _ _ _ _ _ (by decide) HL0.out (by decide) (by decide)) (fun k hk => hk) B4.out.size).mono ?_; rintro x w5 ⟨rfl, hD, hB⟩; rw [E2.out] at hD ⊢; dsimp only at hD ⊢; have D5 := Aside0.mk hD; have B5 := Aside0.mk (B4.out.trans hB); clear hD hB
      go_wp2_with fail
      refine (s_Fuse (N := w.heap.size) D5.out (fun k hk => hk) B5.out.size).mono ?_; rintro x w6 ⟨rfl, hD, hB⟩; rw [← HF0.out] at hD; dsimp only at hD; have D6 := Aside0.mk hD; have B6 := Aside0.mk (B5.out.trans hB); clear hD hB
      go_wp2_with fail
      refine (s_Renew (N := w.heap.size) D6.out (OK.out _ _ _ _ _ HL0.out HL0.out HF1.out.1 HF1.out.2.1) (fun k hk => hk) B6.out.size (came HR1.out B6.out (fun k hk => hk)) HC1.out (by have := HL1.out; omega)).mono ?_; rintro x w7 ⟨rfl, hD, hB⟩; rw [E4.out] at hD ⊢; dsimp only at hD ⊢; have D7 := Aside0.mk hD; have B7 := Aside0.mk (B6.out.trans hB); clear hD hB
      go_wp2_with fail
      refine (s_Sync (N := w.heap.size) D7.out (OK.out _ _ _ _ _ HL0.out HL1.out HF2.out.1 HF2.out.2) (fun k hk => hk) B7.out.size).mono ?_; rintro x w8 ⟨rfl, hD, hB⟩; rw [E5.out] at hD ⊢; dsimp only at hD ⊢; have D8 := Aside0.mk hD; have B8 := Aside0.mk (B7.out.trans hB); clear hD hB
      go_wp2_with fail
      refine (s_Crash (N := w.heap.size) D8.out (OK.out _ _ _ _ _ HL1.out HL1.out HF2.out.1 HF2.out.2) (fun h => Nat.le_refl _) (by decide) (fun k hk => hk) B8.out.size).mono ?_; rintro x w9 ⟨rfl, hD, hB⟩; rw [E6.out] at hD; have D9 := Aside0.mk hD; have B9 := Aside0.mk (B8.out.trans hB); clear hD hB
      go_wp2_with fail
      refine (s_Up (N := w.heap.size) D9.out (OK.out _ _ _ _ _ HL1.out HL1.out (by decide) (by decide)) (fun k hk => hk) B9.out.size).mono ?_; rintro x w10 ⟨rfl, hD, hB⟩; rw [E7.out] at hD; have D10 := Aside0.mk hD; have B10 := Aside0.mk (B9.out.trans hB); clear hD hB
      go_wp2_with fail
      refine (d_Read D10.out (OK.out _ _ _ _ _ HL1.out HL1.out (by decide) (by decide)) rfl).mono ?_; rintro x w11 ⟨v, rfl, hO, hD, hB⟩; have B11 := Aside0.mk (below_step B10.out hB); have hcv := own_string (P := Try.prog) Try.underlying22 Try.underlying5 Try.underlying9 (Kd.own_of_R hO); have hcw := Kd.C_string (P := Try.prog) (c := c1) Try.underlying22 Try.underlying5 Try.underlying9 (Kd.C_below HR1.out B11.out); clear hO hD hB
      go_wp2_with fail
      go_ret
      exact ⟨rfl, B11.out⟩
  by_cases hgt : (l1.length : Int) > fuse
  · skip
    have hB : DS.burn ⟨5000, l0, l0, false, false, f0⟩ (l1.length : Int) = (⟨5000, l0, l0, false, true, -1⟩, f0, false) := by
      have := hf1.2.2
      unfold DS.burn
      simp only
      rw [if_neg (show ¬ f0 < 0 by omega), if_pos (show (l1.length : Int) > f0 by omega)]
    have hE : DS.renewW ⟨5000, l0, l0, false, false, f0⟩ l1 = (⟨5000, l0, l0, false, true, -1⟩, 60) := by
      unfold DS.renewW
      rw [hB]
      simp only [Bool.false_eq_true, if_false, if_true]
      rw [if_neg (show ¬ (l1.length : Int) > 5000 by omega)]
    have E4 := Aside0.mk hE
    have E6 := Aside0.mk (show DS.crash ⟨5000, l0, l0, false, true, -1⟩ 9999 1 = ⟨5000, l0, l0, false, true, -1⟩ from crash_same rfl rfl)
    have E7 := Aside0.mk (show DS.up ⟨5000, l0, l0, false, true, -1⟩ = ⟨5000, l0, l0, false, false, -1⟩ from rfl)
    have t1 : decide (fuse ≥ 0) = true := decide_eq_true (by omega)
    have t2 : decide (0 ≤ fuse) = true := decide_eq_true (by omega)
    have t3 : decide ((l1.length : Int) > fuse) = true := decide_eq_true (by omega)
    have t4 : decide (fuse < (l1.length : Int)) = true := decide_eq_true (by omega)
    clear hf1 hB hE hl1 hneg hgt
    go_enter Try.func6, Try.ntmps6
    go_wp2_with (first | ((with_reducible refine gate_dst (N := 3) rfl ?_); refine box_event ?hg (N := 3) ?hd (cs := #[.slice A0 l0.length c0, .slice A1 l1.length c1]) (t := 23) ?hr ?_; (case hd => rfl); (case hg => rfl); (case hr => first | (go_simp; done) | (go_simp; rfl)); intro gx hg wx hbox hb; have BX := Aside0.mk hb; have KB := Aside0.mk hbox; have GX := Aside0.mk (show w.heap.size ≤ gx from by rw [hg]; exact Nat.le_refl _); clear hb hg hbox) | (go_at_call 12; refine (keeps_calls _).mono ?_; rintro e w1 ⟨rfl, hb⟩; have B1 := Aside0.mk (below_step BX.out hb); have KB1 := Aside0.mk (blk_below KB.out hb); have b1x0 : w1.cell? ⟨gx, 0, none⟩ = some (.slice A0 l0.length c0) := (blk_cell KB1.out 0).trans rfl; have b1x1 : w1.cell? ⟨gx, 1, none⟩ = some (.slice A1 l1.length c1) := (blk_cell KB1.out 1).trans rfl; clear hb))
    repeat (go_quiet (first | fail))
    have B2 := Aside0.mk (below_step B1.out (pw_below_drewN (Below.refl w1.heap.size w1) nq))
    generalize w1.drewN nq = w2 at B2 ⊢
    go_wp2_with fail
    refine (disk_New w2 (by decide) (by decide)).mono ?_; rintro x w3 ⟨g, rfl, hg, hD, hB⟩; have D3 := Aside0.mk (hD.mono (P' := fun k => w.heap.size ≤ k) (fun k hk => Nat.le_trans B2.out.size hk)); have B3 := Aside0.mk (below_step B2.out hB); clear hg hD hB b1x0 b1x1
    go_wp2_with fail
    refine (s_Write (N := w.heap.size) D3.out (OK.out _ _ _ _ _ (by decide) (by decide) (by decide) (by decide)) (fun k hk => hk) B3.out.size (came HR0.out B3.out (fun k hk => hk)) HC0.out (by have := HL0.out; omega)).mono ?_; rintro x w4 ⟨rfl, hD, hB⟩; rw [E1.out] at hD ⊢; dsimp only at hD ⊢; have D4 := Aside0.mk hD; have B4 := Aside0.mk (B3.out.trans hB); clear hD hB
    go_wp2_with fail
    refine (s_Sync (N := w.heap.size) D4.out (OK.out _ _ _ _ _ (by decide) HL0.out (by decide) (by decide)) (fun k hk => hk) B4.out.size).mono ?_; rintro x w5 ⟨rfl, hD, hB⟩; rw [E2.out] at hD ⊢; dsimp only at hD ⊢; have D5 := Aside0.mk hD; have B5 := Aside0.mk (B4.out.trans hB); clear hD hB
    go_wp2_with fail
    refine (s_Fuse (N := w.heap.size) D5.out (fun k hk => hk) B5.out.size).mono ?_; rintro x w6 ⟨rfl, hD, hB⟩; rw [← HF0.out] at hD; dsimp only at hD; have D6 := Aside0.mk hD; have B6 := Aside0.mk (B5.out.trans hB); clear hD hB
    go_wp2_with fail
    refine (s_Renew (N := w.heap.size) D6.out (OK.out _ _ _ _ _ HL0.out HL0.out HF1.out.1 HF1.out.2.1) (fun k hk => hk) B6.out.size (came HR1.out B6.out (fun k hk => hk)) HC1.out (by have := HL1.out; omega)).mono ?_; rintro x w7 ⟨rfl, hD, hB⟩; rw [E4.out] at hD ⊢; dsimp only at hD ⊢; have D7 := Aside0.mk hD; have B7 := Aside0.mk (B6.out.trans hB); clear hD hB
    go_wp2_with fail
    refine (s_Crash (N := w.heap.size) D7.out (OK.out _ _ _ _ _ HL0.out HL0.out (by decide) (by decide)) (fun h => Nat.le_refl _) (by decide) (fun k hk => hk) B7.out.size).mono ?_; rintro x w9 ⟨rfl, hD, hB⟩; rw [E6.out] at hD; have D9 := Aside0.mk hD; have B9 := Aside0.mk (B7.out.trans hB); clear hD hB
    go_wp2_with fail
    refine (s_Up (N := w.heap.size) D9.out (OK.out _ _ _ _ _ HL0.out HL0.out (by decide) (by decide)) (fun k hk => hk) B9.out.size).mono ?_; rintro x w10 ⟨rfl, hD, hB⟩; rw [E7.out] at hD; have D10 := Aside0.mk hD; have B10 := Aside0.mk (B9.out.trans hB); clear hD hB
    go_wp2_with fail
    refine (d_Read D10.out (OK.out _ _ _ _ _ HL0.out HL0.out (by decide) (by decide)) rfl).mono ?_; rintro x w11 ⟨v, rfl, hO, hD, hB⟩; have B11 := Aside0.mk (below_step B10.out hB); have hcv := own_string (P := Try.prog) Try.underlying22 Try.underlying5 Try.underlying9 (Kd.own_of_R hO); have hcw := Kd.C_string (P := Try.prog) (c := c0) Try.underlying22 Try.underlying5 Try.underlying9 (Kd.C_below HR0.out B11.out); clear hO hD hB
    go_wp2_with fail
    go_ret
    exact ⟨rfl, B11.out⟩
  · skip
    obtain ⟨f2, hf2⟩ : ∃ f2, f2 = f0 - (l1.length : Int) := ⟨_, rfl⟩
    have HF2 := Aside0.mk (show -1 ≤ f2 ∧ f2 ≤ 9223372036854775807 by have := hf1.2.2; omega)
    have hB : DS.burn ⟨5000, l0, l0, false, false, f0⟩ (l1.length : Int) = (⟨5000, l0, l0, false, false, f2⟩, (l1.length : Int), true) := by
      have := hf1.2.2
      unfold DS.burn
      simp only
      rw [if_neg (show ¬ f0 < 0 by omega), if_neg (show ¬ (l1.length : Int) > f0 by omega), hf2]
    have hE : DS.renewW ⟨5000, l0, l0, false, false, f0⟩ l1 = (⟨5000, l0, l1, true, false, f2⟩, 0) := by
      unfold DS.renewW
      rw [hB]
      simp only [Bool.false_eq_true, if_false, if_true]
      rw [if_neg (show ¬ (l1.length : Int) > 5000 by omega)]
    have E4 := Aside0.mk hE
    have t1 : decide (fuse ≥ 0) = true := decide_eq_true (by omega)
    have t2 : decide (0 ≤ fuse) = true := decide_eq_true (by omega)
    have t3 : decide ((l1.length : Int) > fuse) = false := decide_eq_false (by omega)
    have t4 : decide (fuse < (l1.length : Int)) = false := decide_eq_false (by omega)
    cases sync
    · have E6 := Aside0.mk (show DS.crash ⟨5000, l0, l1, true, false, f2⟩ 9999 1 = ⟨5000, l0, l0, false, true, -1⟩ from rfl)
      have E7 := Aside0.mk (show DS.up ⟨5000, l0, l0, false, true, -1⟩ = ⟨5000, l0, l0, false, false, -1⟩ from rfl)
      clear hf1 hf2 hB hE hl1 hneg hgt
      go_enter Try.func6, Try.ntmps6
      go_wp2_with (first | ((with_reducible refine gate_dst (N := 3) rfl ?_); refine box_event ?hg (N := 3) ?hd (cs := #[.slice A0 l0.length c0, .slice A1 l1.length c1]) (t := 23) ?hr ?_; (case hd => rfl); (case hg => rfl); (case hr => first | (go_simp; done) | (go_simp; rfl)); intro gx hg wx hbox hb; have BX := Aside0.mk hb; have KB := Aside0.mk hbox; have GX := Aside0.mk (show w.heap.size ≤ gx from by rw [hg]; exact Nat.le_refl _); clear hb hg hbox) | (go_at_call 12; refine (keeps_calls _).mono ?_; rintro e w1 ⟨rfl, hb⟩; have B1 := Aside0.mk (below_step BX.out hb); have KB1 := Aside0.mk (blk_below KB.out hb); have b1x0 : w1.cell? ⟨gx, 0, none⟩ = some (.slice A0 l0.length c0) := (blk_cell KB1.out 0).trans rfl; have b1x1 : w1.cell? ⟨gx, 1, none⟩ = some (.slice A1 l1.length c1) := (blk_cell KB1.out 1).trans rfl; clear hb))
      repeat (go_quiet (first | fail))
      have B2 := Aside0.mk (below_step B1.out (pw_below_drewN (Below.refl w1.heap.size w1) nq))
      generalize w1.drewN nq = w2 at B2 ⊢
      go_wp2_with fail
      refine (disk_New w2 (by decide) (by decide)).mono ?_; rintro x w3 ⟨g, rfl, hg, hD, hB⟩; have D3 := Aside0.mk (hD.mono (P' := fun k => w.heap.size ≤ k) (fun k hk => Nat.le_trans B2.out.size hk)); have B3 := Aside0.mk (below_step B2.out hB); clear hg hD hB b1x0 b1x1
      go_wp2_with fail
      refine (s_Write (N := w.heap.size) D3.out (OK.out _ _ _ _ _ (by decide) (by decide) (by decide) (by decide)) (fun k hk => hk) B3.out.size (came HR0.out B3.out (fun k hk => hk)) HC0.out (by have := HL0.out; omega)).mono ?_; rintro x w4 ⟨rfl, hD, hB⟩; rw [E1.out] at hD ⊢; dsimp only at hD ⊢; have D4 := Aside0.mk hD; have B4 := Aside0.mk (B3.out.trans hB); clear hD hB
      go_wp2_with fail
      refine (s_Sync (N := w.heap.size) D4.out (OK.out _ _ _ _ _ (by decide) HL0.out (by decide) (by decide)) (fun k hk => hk) B4.out.size).mono ?_; rintro x w5 ⟨rfl, hD, hB⟩; rw [E2.out] at hD ⊢; dsimp only at hD ⊢; have D5 := Aside0.mk hD; have B5 := Aside0.mk (B4.out.trans hB); clear hD hB
      go_wp2_with fail
      refine (s_Fuse (N := w.heap.size) D5.out (fun k hk => hk) B5.out.size).mono ?_; rintro x w6 ⟨rfl, hD, hB⟩; rw [← HF0.out] at hD; dsimp only at hD; have D6 := Aside0.mk hD; have B6 := Aside0.mk (B5.out.trans hB); clear hD hB
      go_wp2_with fail
      refine (s_Renew (N := w.heap.size) D6.out (OK.out _ _ _ _ _ HL0.out HL0.out HF1.out.1 HF1.out.2.1) (fun k hk => hk) B6.out.size (came HR1.out B6.out (fun k hk => hk)) HC1.out (by have := HL1.out; omega)).mono ?_; rintro x w7 ⟨rfl, hD, hB⟩; rw [E4.out] at hD ⊢; dsimp only at hD ⊢; have D7 := Aside0.mk hD; have B7 := Aside0.mk (B6.out.trans hB); clear hD hB
      go_wp2_with fail
      refine (s_Crash (N := w.heap.size) D7.out (OK.out _ _ _ _ _ HL0.out HL1.out HF2.out.1 HF2.out.2) (fun h => absurd h (by simp)) (by decide) (fun k hk => hk) B7.out.size).mono ?_; rintro x w9 ⟨rfl, hD, hB⟩; rw [E6.out] at hD; have D9 := Aside0.mk hD; have B9 := Aside0.mk (B7.out.trans hB); clear hD hB
      go_wp2_with fail
      refine (s_Up (N := w.heap.size) D9.out (OK.out _ _ _ _ _ HL0.out HL0.out (by decide) (by decide)) (fun k hk => hk) B9.out.size).mono ?_; rintro x w10 ⟨rfl, hD, hB⟩; rw [E7.out] at hD; have D10 := Aside0.mk hD; have B10 := Aside0.mk (B9.out.trans hB); clear hD hB
      go_wp2_with fail
      refine (d_Read D10.out (OK.out _ _ _ _ _ HL0.out HL0.out (by decide) (by decide)) rfl).mono ?_; rintro x w11 ⟨v, rfl, hO, hD, hB⟩; have B11 := Aside0.mk (below_step B10.out hB); have hcv := own_string (P := Try.prog) Try.underlying22 Try.underlying5 Try.underlying9 (Kd.own_of_R hO); have hcw := Kd.C_string (P := Try.prog) (c := c0) Try.underlying22 Try.underlying5 Try.underlying9 (Kd.C_below HR0.out B11.out); clear hO hD hB
      go_wp2_with fail
      go_ret
      exact ⟨rfl, B11.out⟩
    · have E5 := Aside0.mk (show DS.sync ⟨5000, l0, l1, true, false, f2⟩ = (⟨5000, l1, l1, false, false, f2⟩, 0) from rfl)
      have E6 := Aside0.mk (show DS.crash ⟨5000, l1, l1, false, false, f2⟩ 9999 1 = ⟨5000, l1, l1, false, true, -1⟩ from crash_same rfl rfl)
      have E7 := Aside0.mk (show DS.up ⟨5000, l1, l1, false, true, -1⟩ = ⟨5000, l1, l1, false, false, -1⟩ from rfl)
      clear hf1 hf2 hB hE hl1 hneg hgt
      go_enter Try.func6, Try.ntmps6
      go_wp2_with (first | ((with_reducible refine gate_dst (N := 3) rfl ?_); refine box_event ?hg (N := 3) ?hd (cs := #[.slice A0 l0.length c0, .slice A1 l1.length c1]) (t := 23) ?hr ?_; (case hd => rfl); (case hg => rfl); (case hr => first | (go_simp; done) | (go_simp; rfl)); intro gx hg wx hbox hb; have BX := Aside0.mk hb; have KB := Aside0.mk hbox; have GX := Aside0.mk (show w.heap.size ≤ gx from by rw [hg]; exact Nat.le_refl _); clear hb hg hbox) | (go_at_call 12; refine (keeps_calls _).mono ?_; rintro e w1 ⟨rfl, hb⟩; have B1 := Aside0.mk (below_step BX.out hb); have KB1 := Aside0.mk (blk_below KB.out hb); have b1x0 : w1.cell? ⟨gx, 0, none⟩ = some (.slice A0 l0.length c0) := (blk_cell KB1.out 0).trans rfl; have b1x1 : w1.cell? ⟨gx, 1, none⟩ = some (.slice A1 l1.length c1) := (blk_cell KB1.out 1).trans rfl; clear hb))
      repeat (go_quiet (first | fail))
      have B2 := Aside0.mk (below_step B1.out (pw_below_drewN (Below.refl w1.heap.size w1) nq))
      generalize w1.drewN nq = w2 at B2 ⊢
      go_wp2_with fail
      refine (disk_New w2 (by decide) (by decide)).mono ?_; rintro x w3 ⟨g, rfl, hg, hD, hB⟩; have D3 := Aside0.mk (hD.mono (P' := fun k => w.heap.size ≤ k) (fun k hk => Nat.le_trans B2.out.size hk)); have B3 := Aside0.mk (below_step B2.out hB); clear hg hD hB b1x0 b1x1
      go_wp2_with fail
      refine (s_Write (N := w.heap.size) D3.out (OK.out _ _ _ _ _ (by decide) (by decide) (by decide) (by decide)) (fun k hk => hk) B3.out.size (came HR0.out B3.out (fun k hk => hk)) HC0.out (by have := HL0.out; omega)).mono ?_; rintro x w4 ⟨rfl, hD, hB⟩; rw [E1.out] at hD ⊢; dsimp only at hD ⊢; have D4 := Aside0.mk hD; have B4 := Aside0.mk (B3.out.trans hB); clear hD hB
      go_wp2_with fail
      refine (s_Sync (N := w.heap.size) D4.out (OK.out _ _ _ _ _ (by decide) HL0.out (by decide) (by decide)) (fun k hk => hk) B4.out.size).mono ?_; rintro x w5 ⟨rfl, hD, hB⟩; rw [E2.out] at hD ⊢; dsimp only at hD ⊢; have D5 := Aside0.mk hD; have B5 := Aside0.mk (B4.out.trans hB); clear hD hB
      go_wp2_with fail
      refine (s_Fuse (N := w.heap.size) D5.out (fun k hk => hk) B5.out.size).mono ?_; rintro x w6 ⟨rfl, hD, hB⟩; rw [← HF0.out] at hD; dsimp only at hD; have D6 := Aside0.mk hD; have B6 := Aside0.mk (B5.out.trans hB); clear hD hB
      go_wp2_with fail
      refine (s_Renew (N := w.heap.size) D6.out (OK.out _ _ _ _ _ HL0.out HL0.out HF1.out.1 HF1.out.2.1) (fun k hk => hk) B6.out.size (came HR1.out B6.out (fun k hk => hk)) HC1.out (by have := HL1.out; omega)).mono ?_; rintro x w7 ⟨rfl, hD, hB⟩; rw [E4.out] at hD ⊢; dsimp only at hD ⊢; have D7 := Aside0.mk hD; have B7 := Aside0.mk (B6.out.trans hB); clear hD hB
      go_wp2_with fail
      refine (s_Sync (N := w.heap.size) D7.out (OK.out _ _ _ _ _ HL0.out HL1.out HF2.out.1 HF2.out.2) (fun k hk => hk) B7.out.size).mono ?_; rintro x w8 ⟨rfl, hD, hB⟩; rw [E5.out] at hD ⊢; dsimp only at hD ⊢; have D8 := Aside0.mk hD; have B8 := Aside0.mk (B7.out.trans hB); clear hD hB
      go_wp2_with fail
      refine (s_Crash (N := w.heap.size) D8.out (OK.out _ _ _ _ _ HL1.out HL1.out HF2.out.1 HF2.out.2) (fun h => Nat.le_refl _) (by decide) (fun k hk => hk) B8.out.size).mono ?_; rintro x w9 ⟨rfl, hD, hB⟩; rw [E6.out] at hD; have D9 := Aside0.mk hD; have B9 := Aside0.mk (B8.out.trans hB); clear hD hB
      go_wp2_with fail
      refine (s_Up (N := w.heap.size) D9.out (OK.out _ _ _ _ _ HL1.out HL1.out (by decide) (by decide)) (fun k hk => hk) B9.out.size).mono ?_; rintro x w10 ⟨rfl, hD, hB⟩; rw [E7.out] at hD; have D10 := Aside0.mk hD; have B10 := Aside0.mk (B9.out.trans hB); clear hD hB
      go_wp2_with fail
      refine (d_Read D10.out (OK.out _ _ _ _ _ HL1.out HL1.out (by decide) (by decide)) rfl).mono ?_; rintro x w11 ⟨v, rfl, hO, hD, hB⟩; have B11 := Aside0.mk (below_step B10.out hB); have hcv := own_string (P := Try.prog) Try.underlying22 Try.underlying5 Try.underlying9 (Kd.own_of_R hO); have hcw := Kd.C_string (P := Try.prog) (c := c1) Try.underlying22 Try.underlying5 Try.underlying9 (Kd.C_below HR1.out B11.out); clear hO hD hB
      go_wp2_with fail
      go_ret
      exact ⟨rfl, B11.out⟩
end Go.Proofs.Ythpdmjpimeibnaa.Pure
