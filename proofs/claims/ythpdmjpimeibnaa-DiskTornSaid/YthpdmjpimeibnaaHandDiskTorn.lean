/-
  DiskTorn, walked by hand: of bytes that weren't synced the first so many stay behind a crash, the last of these changed.
-/
import Derived.Test.YthpdmjpimeibnaaODisk6
import Derived.Test.YthpdmjpimeibnaaHKeeps
import Derived.Test.YthpdmjpimeibnaaRowDiskTorn
namespace Go.Proofs.Ythpdmjpimeibnaa.Pure
open Go.RowKit Go.Proofs.Ythpdmjpimeibnaa.M Go.Proofs.YthpdmjpimeibnaaW.PrintWords Go.Proofs.YthpdmjpimeibnaaW.PrintLast Go.Proofs.YthpdmjpimeibnaaW.PrintMore
set_option linter.unusedVariables false
set_option linter.unusedSimpArgs false
attribute [local go_sem] max2_int min2_int max_two min_two   -- for this text alone
theorem blkN {w w' : World} {g N : Nat} {o : Obj} (h : w.heap[g]? = some o) (hB : Below N w w') (hg : g < N) : w'.heap[g]? = some o := (hB.block g hg).trans h
set_option maxHeartbeats 4000000 in
set_option maxRecDepth 100000 in
theorem DiskTorn_hand (A0 : Option Addr) (c0 : Nat) (l0 : List Int) (A1 : Option Addr) (c1 : Nat) (l1 : List Int) (keep turn : Int) (w : World)
    (hr0 : Kd.C (Kd.int .u8) w A0 l0.length l0) (hc0 : l0.length ≤ c0) (hr1 : Kd.C (Kd.int .u8) w A1 l1.length l1) (hc1 : l1.length ≤ c1)
    (g0 : (l0.length * 1 ≤ 140737488351232 ∧ ∀ x ∈ l0, (Lit.int .u8 x).wf = true) ∧ (l1.length * 1 ≤ 140737488351232 ∧ ∀ x ∈ l1, (Lit.int .u8 x).wf = true)) (g1 : (Lit.int .i64 keep).wf = true) (g2 : (Lit.int .u8 turn).wf = true) :
    Calls Try.prog 3 #[.agg #[.slice A0 l0.length c0, .slice A1 l1.length c1], .int .i64 keep, .int .u8 turn] w fun e w' => e = .returned (.bool true) ∧ Below w.heap.size w w' := by
  have hT : 0 ≤ turn ∧ turn < 256 := by simp [Lit.wf, IntKind.min, IntKind.max, IntKind.signed, IntKind.bits] at g2; omega
  have HB := Aside0.mk (Below.refl w.heap.size w)
  have HR0 := Aside0.mk hr0; have HC0 := Aside0.mk hc0; have HR1 := Aside0.mk hr1; have HC1 := Aside0.mk hc1; clear hr0 hc0 hr1 hc1
  by_cases h0_ : l0.length > 500
  · have c0_ : decide (500 < (l0.length : Int)) = true := decide_eq_true (by omega)
    have c1_ : decide ((l0.length : Int) > 500) = true := decide_eq_true (by omega)
    clear g0 g1 g2
    go_enter Try.func3, Try.ntmps3
    go_wp2_with (first | ((with_reducible refine gate_dst (N := 3) rfl ?_); refine box_event ?hg (N := 3) ?hd (cs := #[.slice A0 l0.length c0, .slice A1 l1.length c1]) (t := 23) ?hr ?_; (case hd => rfl); (case hg => rfl); (case hr => first | (go_simp; done) | (go_simp; rfl)); intro gx hg wx hbox hb; have BX := Aside0.mk hb; have KB := Aside0.mk hbox; have GX := Aside0.mk (show w.heap.size ≤ gx from by rw [hg]; exact Nat.le_refl _); clear hb hg hbox) | (go_at_call 12; refine (keeps_calls _).mono ?_; rintro e w1 ⟨rfl, hb⟩; have B1 := Aside0.mk (below_step BX.out hb); have KB1 := blk_below KB.out hb; have bx0 : w1.cell? ⟨gx, 0, none⟩ = some (.slice A0 l0.length c0) := (blk_cell KB1 0).trans rfl; have bx1 : w1.cell? ⟨gx, 1, none⟩ = some (.slice A1 l1.length c1) := (blk_cell KB1 1).trans rfl; clear KB1 hb))
    go_ret
    exact ⟨rfl, B1.out⟩
  have c0a_ : decide (500 < (l0.length : Int)) = false := decide_eq_false (by omega)
  have c0b_ : decide ((l0.length : Int) > 500) = false := decide_eq_false (by omega)
  have HL0 := Aside0.mk (show l0.length ≤ 500 by omega)
  clear h0_
  by_cases h1_ : l1.length > 500
  · have c0_ : decide (500 < (l1.length : Int)) = true := decide_eq_true (by omega)
    have c1_ : decide ((l1.length : Int) > 500) = true := decide_eq_true (by omega)
    clear g0 g1 g2
    go_enter Try.func3, Try.ntmps3
    go_wp2_with (first | ((with_reducible refine gate_dst (N := 3) rfl ?_); refine box_event ?hg (N := 3) ?hd (cs := #[.slice A0 l0.length c0, .slice A1 l1.length c1]) (t := 23) ?hr ?_; (case hd => rfl); (case hg => rfl); (case hr => first | (go_simp; done) | (go_simp; rfl)); intro gx hg wx hbox hb; have BX := Aside0.mk hb; have KB := Aside0.mk hbox; have GX := Aside0.mk (show w.heap.size ≤ gx from by rw [hg]; exact Nat.le_refl _); clear hb hg hbox) | (go_at_call 12; refine (keeps_calls _).mono ?_; rintro e w1 ⟨rfl, hb⟩; have B1 := Aside0.mk (below_step BX.out hb); have KB1 := blk_below KB.out hb; have bx0 : w1.cell? ⟨gx, 0, none⟩ = some (.slice A0 l0.length c0) := (blk_cell KB1 0).trans rfl; have bx1 : w1.cell? ⟨gx, 1, none⟩ = some (.slice A1 l1.length c1) := (blk_cell KB1 1).trans rfl; clear KB1 hb))
    go_ret
    exact ⟨rfl, B1.out⟩
  have c1a_ : decide (500 < (l1.length : Int)) = false := decide_eq_false (by omega)
  have c1b_ : decide ((l1.length : Int) > 500) = false := decide_eq_false (by omega)
  have HL1 := Aside0.mk (show l1.length ≤ 500 by omega)
  clear h1_
  have OK := Aside0.mk (show ∀ (s a : List Int) r dn, s.length ≤ 1000 → a.length ≤ 1000 → DS.Ok ⟨2000, s, a, r, dn, -1⟩ from fun s a r dn h1 h2 => ⟨by simp only; omega, by simp only; omega, by simp only; omega, by simp only; omega, by simp only; omega, by simp only; omega⟩)
  have E1 := Aside0.mk (show DS.write ⟨2000, [], [], false, false, -1⟩ l0 = (⟨2000, [], l0, false, false, -1⟩, 0) from write_free rfl (by decide) (by have := HL0.out; simp only [List.length_nil]; omega))
  have E2 := Aside0.mk (show DS.sync ⟨2000, [], l0, false, false, -1⟩ = (⟨2000, l0, l0, false, false, -1⟩, 0) from rfl)
  have E3 := Aside0.mk (show DS.write ⟨2000, l0, l0, false, false, -1⟩ l1 = (⟨2000, l0, l0 ++ l1, false, false, -1⟩, 0) from write_free rfl (by simp only; omega) (by have := HL0.out; have := HL1.out; simp only; omega))
  have e4 : (max 0 (min keep (l1.length : Int))).toNat ≤ l1.length := by omega
  obtain ⟨m, hm⟩ : ∃ m : Nat, m = (max 0 (min keep (l1.length : Int))).toNat := ⟨_, rfl⟩
  have hm1 : mx 0 (mn keep (l1.length : Int)) = (m : Int) := by rw [hm]; unfold mx mn; omega
  obtain ⟨T, hT1⟩ : ∃ T, T = l0 ++ l1.take m := ⟨_, rfl⟩
  have hTl : T.length = l0.length + m := by rw [hT1, List.length_append, List.length_take]; omega
  have htk : (l0 ++ l1).take (l0.length + m) = T := by rw [hT1, List.take_append, List.take_of_length_le (by omega), Nat.add_sub_cancel_left]
  obtain ⟨X, hX⟩ : ∃ X, X = if m > 0 then T.set (T.length - 1) (Go.bits .xor .u8 (rd T ((T.length - 1 : Nat) : Int)) turn) else T := ⟨_, rfl⟩
  have hXl : X.length = T.length := by rw [hX]; split <;> simp
  have hcr : DS.crash ⟨2000, l0, l0 ++ l1, false, false, -1⟩ keep turn = ⟨2000, l0, X, false, true, -1⟩ := by
    have ht : DS.torn ⟨2000, l0, l0 ++ l1, false, false, -1⟩ keep = l0.length + m := by
      unfold DS.torn
      simp only [List.length_append]
      rw [hm]; omega
    unfold DS.crash
    rw [ht, htk]
    simp only [Bool.false_eq_true, if_false]
    rw [hX]
    by_cases h0 : m > 0
    · rw [if_pos h0, if_pos (by omega), hTl]
    · rw [if_neg h0, if_neg (by omega)]
  have E4 := Aside0.mk hcr
  have E5 := Aside0.mk (show DS.up ⟨2000, l0, X, false, true, -1⟩ = ⟨2000, X, X, false, false, -1⟩ from rfl)
  have HX := Aside0.mk hX; have HT1 := Aside0.mk hT1; have HTl := Aside0.mk hTl; have HXl := Aside0.mk hXl; have HM := Aside0.mk (show m ≤ l1.length by rw [hm]; exact e4); have HM1 := Aside0.mk hm1; have HTu := Aside0.mk hT
  clear g0 g1 g2 e4 hm hm1 hT1 hTl htk hX hXl hcr hT
  obtain ⟨i0, hi0, _, hsz0, _⟩ := info_parts info5
  obtain ⟨hcut, hcr, hcl⟩ := print_take_int (P := Try.prog) (k := .u8) 22 5 Try.underlying22 hi0 hsz0 A1 c1 l1 (m : Int) (by omega) (by have := HM.out; omega) HC1.out
  have hcr := Aside0.mk hcr
  clear hcl hi0 hsz0
  rw [Int.toNat_natCast] at hcut hcr
  have e6 : (l1.take m).length = m := by rw [List.length_take]; have := HM.out; omega
  rw [e6] at hcut hcr
  clear e6
  have E6 := Aside0.mk (show min m l1.length = m by have := HM.out; omega)
  go_enter Try.func3, Try.ntmps3
  go_wp2_with (first | ((with_reducible refine gate_dst (N := 3) rfl ?_); refine box_event ?hg (N := 3) ?hd (cs := #[.slice A0 l0.length c0, .slice A1 l1.length c1]) (t := 23) ?hr ?_; (case hd => rfl); (case hg => rfl); (case hr => first | (go_simp; done) | (go_simp; rfl)); intro gx hg wx hbox hb; have BX := Aside0.mk hb; have KB := Aside0.mk hbox; have GX := Aside0.mk (show w.heap.size ≤ gx from by rw [hg]; exact Nat.le_refl _); clear hb hg hbox) | (go_at_call 12; refine (keeps_calls _).mono ?_; rintro e w1 ⟨rfl, hb⟩; have B1 := Aside0.mk (below_step BX.out hb); have KB1 := Aside0.mk (blk_below KB.out hb); have GX2 := Aside0.mk (Nat.lt_of_lt_of_le (blk_lt KB.out) hb.size); have GN := Aside0.mk (show w.heap.size ≤ w1.heap.size from B1.out.size); have b1x0 : w1.cell? ⟨gx, 0, none⟩ = some (.slice A0 l0.length c0) := (blk_cell KB1.out 0).trans rfl; have b1x1 : w1.cell? ⟨gx, 1, none⟩ = some (.slice A1 l1.length c1) := (blk_cell KB1.out 1).trans rfl; clear hb))
  refine (disk_New w1 (by decide) (by decide)).mono ?_; rintro x w2 ⟨g, rfl, hg, hD, hB⟩; have D2 := Aside0.mk hD; have B2 := Aside0.mk (below_step B1.out hB); have N2 := Aside0.mk hB.size; have KB2 := Aside0.mk (blk_below KB1.out hB); have b2x0 : w2.cell? ⟨gx, 0, none⟩ = some (.slice A0 l0.length c0) := (blk_cell KB2.out 0).trans rfl; have b2x1 : w2.cell? ⟨gx, 1, none⟩ = some (.slice A1 l1.length c1) := (blk_cell KB2.out 1).trans rfl; clear hg hD hB b1x0 b1x1
  go_wp2_with fail
  refine (s_Write (N := w1.heap.size) D2.out (OK.out _ _ _ _ (by decide) (by decide)) (fun k hk => hk) N2.out (came HR0.out B2.out (fun k hk => Nat.le_trans GN.out hk)) HC0.out (by have := HL0.out; omega)).mono ?_; rintro x w3 ⟨rfl, hD, hB⟩; rw [E1.out] at hD ⊢; dsimp only at hD ⊢; have D3 := Aside0.mk hD; have B3 := Aside0.mk (B2.out.trans (hB.mono GN.out)); have KB3 := Aside0.mk (blkN KB2.out hB GX2.out); have b3x0 : w3.cell? ⟨gx, 0, none⟩ = some (.slice A0 l0.length c0) := (blk_cell KB3.out 0).trans rfl; have b3x1 : w3.cell? ⟨gx, 1, none⟩ = some (.slice A1 l1.length c1) := (blk_cell KB3.out 1).trans rfl; have hsz_ := hB.size; clear hD hB ; have N3 := Aside0.mk (show w1.heap.size ≤ w3.heap.size from Nat.le_trans N2.out hsz_); clear hsz_ b2x0 b2x1
  go_wp2_with fail
  refine (s_Sync (N := w1.heap.size) D3.out (OK.out _ _ _ _ (by decide) (by have := HL0.out; omega)) (fun k hk => hk) N3.out).mono ?_; rintro x w4 ⟨rfl, hD, hB⟩; rw [E2.out] at hD ⊢; dsimp only at hD ⊢; have D4 := Aside0.mk hD; have B4 := Aside0.mk (B3.out.trans (hB.mono GN.out)); have KB4 := Aside0.mk (blkN KB3.out hB GX2.out); have b4x0 : w4.cell? ⟨gx, 0, none⟩ = some (.slice A0 l0.length c0) := (blk_cell KB4.out 0).trans rfl; have b4x1 : w4.cell? ⟨gx, 1, none⟩ = some (.slice A1 l1.length c1) := (blk_cell KB4.out 1).trans rfl; have hsz_ := hB.size; clear hD hB ; have N4 := Aside0.mk (show w1.heap.size ≤ w4.heap.size from Nat.le_trans N3.out hsz_); clear hsz_ b3x0 b3x1
  go_wp2_with fail
  refine (s_Write (N := w1.heap.size) D4.out (OK.out _ _ _ _ (by have := HL0.out; omega) (by have := HL0.out; omega)) (fun k hk => hk) N4.out (came HR1.out B4.out (fun k hk => Nat.le_trans GN.out hk)) HC1.out (by have := HL1.out; omega)).mono ?_; rintro x w5 ⟨rfl, hD, hB⟩; rw [E3.out] at hD ⊢; dsimp only at hD ⊢; have D5 := Aside0.mk hD; have B5 := Aside0.mk (B4.out.trans (hB.mono GN.out)); have KB5 := Aside0.mk (blkN KB4.out hB GX2.out); have b5x0 : w5.cell? ⟨gx, 0, none⟩ = some (.slice A0 l0.length c0) := (blk_cell KB5.out 0).trans rfl; have b5x1 : w5.cell? ⟨gx, 1, none⟩ = some (.slice A1 l1.length c1) := (blk_cell KB5.out 1).trans rfl; have hsz_ := hB.size; clear hD hB ; have N5 := Aside0.mk (show w1.heap.size ≤ w5.heap.size from Nat.le_trans N4.out hsz_); clear hsz_ b4x0 b4x1
  go_wp2_with fail
  refine (s_Crash (N := w1.heap.size) D5.out (OK.out _ _ _ _ (by have := HL0.out; omega) (by have := HL0.out; have := HL1.out; rw [List.length_append]; omega)) (fun _ => by simp only [List.length_append]; omega) HTu.out (fun k hk => hk) N5.out).mono ?_; rintro x w6 ⟨rfl, hD, hB⟩; have D6 := Aside0.mk hD; have B6 := Aside0.mk (B5.out.trans (hB.mono GN.out)); have KB6 := Aside0.mk (blkN KB5.out hB GX2.out); have b6x0 : w6.cell? ⟨gx, 0, none⟩ = some (.slice A0 l0.length c0) := (blk_cell KB6.out 0).trans rfl; have b6x1 : w6.cell? ⟨gx, 1, none⟩ = some (.slice A1 l1.length c1) := (blk_cell KB6.out 1).trans rfl; have hsz_ := hB.size; clear hD hB ; rw [E4.out] at D6; have N6 := Aside0.mk (show w1.heap.size ≤ w6.heap.size from Nat.le_trans N5.out hsz_); clear hsz_ b5x0 b5x1
  go_wp2_with fail
  refine (s_Up (N := w1.heap.size) D6.out (OK.out _ _ _ _ (by have := HL0.out; omega) (by rw [HXl.out, HTl.out]; have := HL0.out; have := HL1.out; have := HM.out; omega)) (fun k hk => hk) N6.out).mono ?_; rintro x w7 ⟨rfl, hD, hB⟩; have D7 := Aside0.mk hD; have B7 := Aside0.mk (B6.out.trans (hB.mono GN.out)); have KB7 := Aside0.mk (blkN KB6.out hB GX2.out); have b7x0 : w7.cell? ⟨gx, 0, none⟩ = some (.slice A0 l0.length c0) := (blk_cell KB7.out 0).trans rfl; have b7x1 : w7.cell? ⟨gx, 1, none⟩ = some (.slice A1 l1.length c1) := (blk_cell KB7.out 1).trans rfl; have hsz_ := hB.size; clear hD hB ; rw [E5.out] at D7; have N7 := Aside0.mk (show w1.heap.size ≤ w7.heap.size from Nat.le_trans N6.out hsz_); clear hsz_ b6x0 b6x1
  go_wp2_with fail
  refine (d_Read D7.out (OK.out _ _ _ _ (by rw [HXl.out, HTl.out]; have := HL0.out; have := HL1.out; have := HM.out; omega) (by rw [HXl.out, HTl.out]; have := HL0.out; have := HL1.out; have := HM.out; omega)) rfl).mono ?_; rintro x w8 ⟨v8, rfl, hO, hD, hB⟩; have D8 := Aside0.mk hD; have O8 := Aside0.mk hO; have B8 := Aside0.mk (below_step B7.out hB); have N8 := Aside0.mk (Nat.le_trans N7.out hB.size); have KB8 := Aside0.mk (blk_below KB7.out hB); have b8x0 : w8.cell? ⟨gx, 0, none⟩ = some (.slice A0 l0.length c0) := (blk_cell KB8.out 0).trans rfl; have b8x1 : w8.cell? ⟨gx, 1, none⟩ = some (.slice A1 l1.length c1) := (blk_cell KB8.out 1).trans rfl; clear hO hD hB b7x0 b7x1
  go_wp2_with (first | ((with_reducible refine gate_dst (N := 54) rfl ?_); refine Kd.event_run (v := .int .i64 (mn keep (l1.length : Int))) (w1 := w8) rfl ?hr ?_; (case hr => first | (go_simp; done) | (go_simp; rfl))) | ((with_reducible refine gate_dst (N := 55) rfl ?_); refine Kd.event_run (v := .int .i64 (mx 0 (mn keep (l1.length : Int)))) (w1 := w8) rfl ?hr ?_; (case hr => first | (go_simp; done) | (go_simp; rfl)); rw [HM1.out]))
  refine start_ (n := 10) (S := fun w' => w'.cell? ⟨gx, 0, none⟩ = some (.slice A0 l0.length c0) ∧ w'.cell? ⟨gx, 1, none⟩ = some (.slice A1 l1.length c1)) (ds := []) #[false, false, false, false, false, false, false, false, false, false] (by kernel_rfl) rfl rfl ⟨((blk_cell (blk_drew KB8.out) 0).trans rfl), ((blk_cell (blk_drew KB8.out) 1).trans rfl)⟩ (fun hHeld => ?_)
  refine pure_ (i := 1) (N := some 57) (v := ?_) (a' := ?_) #[false, true, false, false, false, false, false, false, false, false] rfl rfl (by kernel_rfl) (fun _ _ _ h => h) (Or.inl ⟨by rfl, ?_⟩) ?_ ?_
  rotate_left
  · intro w'
    go_simp
    with_reducible rfl
  rotate_left
  · simp only [Act.put, List.setIfInBounds_toArray, List.set_cons_zero, List.set_cons_succ, i64_w, i32_w]
    rfl
  refine pure_ (i := 4) (N := some 60) (v := ?_) (a' := ?_) #[false, true, false, false, true, false, false, false, false, false] rfl rfl (by kernel_rfl) (fun _ _ _ h => h) (Or.inl ⟨by rfl, ?_⟩) ?_ ?_
  rotate_left
  · intro w'
    go_simp
    with_reducible rfl
  rotate_left
  · simp only [Act.put, List.setIfInBounds_toArray, List.set_cons_zero, List.set_cons_succ, i64_w, i32_w]
    rfl
  refine pure_ (i := 6) (N := some 62) (v := ?_) (a' := ?_) #[false, true, false, false, true, false, true, false, false, false] rfl rfl (by kernel_rfl) (fun _ _ _ h => h) (Or.inl ⟨by rfl, ?_⟩) ?_ ?_
  rotate_left
  · intro w'
    go_simp
    with_reducible rfl
  rotate_left
  · simp only [Act.put, List.setIfInBounds_toArray, List.set_cons_zero, List.set_cons_succ, i64_w, i32_w]
    rfl
  refine take_ (i := 2) (N := some 58) (v := ?_) (a' := ?_) #[false, true, true, false, true, false, true, false, false, false] rfl rfl (by kernel_rfl) (fun _ _ _ h => h) (Or.inl ⟨by rfl, ?_⟩) hHeld ?_ ?_
  rotate_left
  · rintro w' ⟨s0, s1⟩
    go_simp
    with_reducible rfl
  rotate_left
  · simp only [Act.put, List.setIfInBounds_toArray, List.set_cons_zero, List.set_cons_succ, i64_w, i32_w]
    rfl
  refine take_ (i := 5) (N := some 61) (v := ?_) (a' := ?_) #[false, true, true, false, true, true, true, false, false, false] rfl rfl (by kernel_rfl) (fun _ _ _ h => h) (Or.inl ⟨by rfl, ?_⟩) hHeld ?_ ?_
  rotate_left
  · rintro w' ⟨s0, s1⟩
    go_simp
    with_reducible rfl
  rotate_left
  · simp only [Act.put, List.setIfInBounds_toArray, List.set_cons_zero, List.set_cons_succ, i64_w, i32_w]
    rfl
  refine pure_ (i := 7) (N := some 63) (v := ?_) (a' := ?_) #[false, true, true, false, true, true, true, true, false, false] rfl rfl (by kernel_rfl) (fun _ _ _ h => h) (Or.inl ⟨by rfl, ?_⟩) ?_ ?_
  rotate_left
  · intro w'
    go_simp
    with_reducible rfl
  rotate_left
  · simp only [Act.put, List.setIfInBounds_toArray, List.set_cons_zero, List.set_cons_succ, i64_w, i32_w]
    rfl
  refine one_ (i := 0) (N := some 56) #[true, true, true, false, true, true, true, true, false, false] rfl rfl (by kernel_rfl) (by decide) (fun K hK => ?_)
  refine Kd.R_lit_step (Kd.int .u8) _ 5 ?hg (N := 56) ?hd (xs := ([] : List Int)) (inner := []) (ok := fun _ => True) (okp := fun _ => True) ?hr ?hp (fun _ hk => hk) trivial (Below.refl _ _) (Nat.le_refl _) (by simp) ?_
  (case hd => rfl)
  (case hg => rfl)
  (case hr => first | (go_simp; done) | (go_simp; rfl))
  (case hp => exact (Reps.none _ _))
  intro v9 w9 ho hb hg_ hnew_
  clear hg_ hnew_
  have O9 := Aside0.mk ho
  have C9 := Aside0.mk hb
  have KB9 := Aside0.mk (blk_below (blk_drew KB8.out) hb)
  clear ho hb
  refine hK.out _ _ ⟨((blk_cell KB9.out 0).trans rfl), ((blk_cell KB9.out 1).trans rfl)⟩ (fun hHeld => ?_)
  clear hK K
  refine norm_ (a' := ?_) ?_ ?_
  rotate_left
  · show Act.put _ (some 56) _ = _
    simp only [Act.put, List.setIfInBounds_toArray, List.set_cons_zero, List.set_cons_succ, i64_w, i32_w]
    rfl
  refine one_ (i := 3) (N := some 59) #[true, true, true, true, true, true, true, true, false, false] rfl rfl (by kernel_rfl) (by decide) (fun K hK => ?_)
  refine Kd.R_append_rows_step (Kd.int .u8) (w0 := w8.drew) w8.drew.heap.size (by rfl) (.tmp 56) (.tmp 58) 22 5 (.int .u8 0) 1 rfl Try.underlying22 info5 rfl (by decide) (by omega) (v9) ([]) (l0) _ _ _ (fun _ => True) (fun _ => False) rfl rfl ?aO ?aR (fun _ _ h => h) (fun _ h => h.elim) ?aF ?aB ?aS ?aL ?_
  (case aR => exact (Kd.C_below HR0.out (below_step (below_step B8.out (below_drew (Below.refl _ _))) C9.out)))
  (case aB => exact C9.out)
  (case aF => exact (fun _ _ => trivial))
  (case aO => exact O9.out)
  (case aS => exact C9.out.size)
  (case aL => (have := HL0.out; simp only [List.length_nil]; omega))
  intro v10 w10 ho hb hg hat
  clear hg hat
  rw [List.nil_append] at ho
  obtain ⟨A10, c10, e10⟩ := Kd.R_slice ho
  subst e10
  have O10 := Aside0.mk ho
  have C10 := Aside0.mk hb
  have KB10 := Aside0.mk (blk_below (blk_drew KB8.out) hb)
  clear ho hb
  refine hK.out _ _ ⟨((blk_cell KB10.out 0).trans rfl), ((blk_cell KB10.out 1).trans rfl)⟩ (fun hHeld => ?_)
  clear hK K
  refine norm_ (a' := ?_) ?_ ?_
  rotate_left
  · show Act.put _ (some 59) _ = _
    simp only [Act.put, List.setIfInBounds_toArray, List.set_cons_zero, List.set_cons_succ, i64_w, i32_w]
    rfl
  refine one_ (i := 8) (N := some 64) #[true, true, true, true, true, true, true, true, true, false] rfl rfl (by kernel_rfl) (by decide) (fun K hK => ?_)
  refine Kd.R_append_rows_step (Kd.int .u8) (w0 := w8.drew) w8.drew.heap.size (by rfl) (.tmp 59) (.tmp 63) 22 5 (.int .u8 0) 1 rfl Try.underlying22 info5 rfl (by decide) (by omega) (.slice A10 l0.length c10) (l0) (l1.take m) _ _ _ (fun _ => True) (fun _ => False) rfl rfl ?aO ?aR (fun _ _ h => h) (fun _ h => h.elim) ?aF ?aB ?aS ?aL ?_
  (case aR => exact (by have := Kd.C_of_reads (h1 := fun _ => rfl) (hcr.out _ (Kd.reads_of_C (Kd.C_below HR1.out (below_step (below_step B8.out (below_drew (Below.refl _ _))) C10.out)))); exact this))
  (case aB => exact C10.out)
  (case aF => exact (fun _ _ => trivial))
  (case aO => exact O10.out)
  (case aS => exact C10.out.size)
  (case aL => (have := HL0.out; have := HL1.out; have := HM.out; omega))
  intro v11 w11 ho hb hg hat
  clear hg hat
  rw [← HT1.out] at ho
  obtain ⟨A11, c11, e11⟩ := Kd.R_slice ho
  subst e11
  have O11 := Aside0.mk ho
  have C11 := Aside0.mk hb
  have KB11 := Aside0.mk (blk_below (blk_drew KB8.out) hb)
  clear ho hb
  refine hK.out _ _ ⟨((blk_cell KB11.out 0).trans rfl), ((blk_cell KB11.out 1).trans rfl)⟩ (fun hHeld => ?_)
  clear hK K
  refine norm_ (a' := ?_) ?_ ?_
  rotate_left
  · show Act.put _ (some 64) _ = _
    simp only [Act.put, List.setIfInBounds_toArray, List.set_cons_zero, List.set_cons_succ, i64_w, i32_w]
    rfl
  refine pure_ (i := 9) (N := some 12) (v := ?_) (a' := ?_) #[true, true, true, true, true, true, true, true, true, true] rfl rfl (by kernel_rfl) (fun _ _ _ h => h) (Or.inl ⟨by rfl, ?_⟩) ?_ ?_
  rotate_left
  · intro w'
    go_simp
    with_reducible rfl
  rotate_left
  · simp only [Act.put, List.setIfInBounds_toArray, List.set_cons_zero, List.set_cons_succ, i64_w, i32_w]
    rfl
  refine done_ (by kernel_rfl) ?_
  have C12 := Aside0.mk (below_step (below_drew (Below.refl w8.heap.size w8)) C11.out)
  have B11 := Aside0.mk (below_step B8.out C12.out)
  have r1 : wrap64 (2000 - (T.length : Int)) = 2000 - (T.length : Int) := by have := HTl.out; have := HL0.out; have := HM.out; have := HL1.out; unfold wrap64; omega
  by_cases hm0 : m > 0
  · have t1 : decide ((m : Int) > 0) = true := decide_eq_true (by omega)
    have t2 : decide (0 < (m : Int)) = true := decide_eq_true (by omega)
    have t3 := eq_true (show 0 < m by omega)
    obtain ⟨gb, cb, eb, hgb, hgl, -⟩ := Kd.R_form O11.out (by rw [HTl.out]; omega)
    injection eb with ea_ en_ ec_; subst ea_; subst ec_; clear en_
    have hgb2 := Aside0.mk (show w8.heap.size ≤ gb from hgb)
    obtain ⟨hx, hf⟩ := Kd.R_celln 0 O11.out ((T.length - 1 : Nat) : Int) (by omega) (by have := HTl.out; omega)
    rw [Int.toNat_natCast] at hx hf
    replace hx : w11.cell? ⟨gb, T.length - 1, none⟩ = some (.int .u8 (rd T ((T.length - 1 : Nat) : Int))) := hx
    have q1 := eq_true (show (0 : Int) ≤ ((T.length - 1 : Nat) : Int) by omega)
    have q2 := eq_true (show ((T.length - 1 : Nat) : Int) < (T.length : Int) by have := HTl.out; omega)
    have r2 : wrap64 ((T.length : Int) - 1) = ((T.length - 1 : Nat) : Int) := by have := HTl.out; have := HL0.out; have := HM.out; have := HL1.out; unfold wrap64; omega
    have hP := (Kd.R_putg O11.out ((T.length - 1 : Nat) : Int) (Go.bits .xor .u8 (rd T ((T.length - 1 : Nat) : Int)) turn)).1
    rw [Int.toNat_natCast] at hP
    have hXe := HX.out
    rw [if_pos hm0] at hXe
    rw [← hXe] at hP
    have KK := Aside0.mk ((Kept.of_below C12.out (fun k => k = gb)).setCell (p := ⟨gb, T.length - 1, none⟩) (.inl rfl) (.int .u8 (Go.bits .xor .u8 (rd T ((T.length - 1 : Nat) : Int)) turn)))
    have O12 := Aside0.mk (Kd.R_kept (Kd.R_bound O8.out) KK.out (fun k hk e => by subst e; exact absurd hk.2.2.1 (Nat.not_lt.mpr hgb2.out)))
    have D12 := Aside0.mk ((D8.out.bound.kept KK.out (fun k hk e => by subst e; exact absurd hk.2 (Nat.not_lt.mpr hgb2.out))).mono (P' := fun k => w1.heap.size ≤ k) (fun k hk => hk.1))
    have B12 := Aside0.mk (below_set B11.out (Nat.le_trans B8.out.size hgb2.out) : Below w.heap.size w (w11.setCell ⟨gb, T.length - 1, none⟩ (.int .u8 (Go.bits .xor .u8 (rd T ((T.length - 1 : Nat) : Int)) turn))))
    have hcv := own_string (P := Try.prog) Try.underlying22 Try.underlying5 Try.underlying9 (Kd.own_of_R O12.out)
    have hcw := own_string (P := Try.prog) Try.underlying22 Try.underlying5 Try.underlying9 (Kd.own_of_R hP)
    clear hm0 hgb hgl hP hXe
    go_wp2_with fail
    refine (d_Room D12.out (OK.out _ _ _ _ (by rw [HXl.out, HTl.out]; have := HL0.out; have := HL1.out; have := HM.out; omega) (by rw [HXl.out, HTl.out]; have := HL0.out; have := HL1.out; have := HM.out; omega))).mono ?_; rintro x w13 ⟨rfl, hD, hB⟩; dsimp only; rw [HXl.out]; have B13 := Aside0.mk (below_step B12.out hB); clear hD hB
    go_wp2_with fail
    go_ret
    exact ⟨rfl, B13.out⟩
  · have t1 : decide ((m : Int) > 0) = false := decide_eq_false (by omega)
    have t2 : decide (0 < (m : Int)) = false := decide_eq_false (by omega)
    have t3 := eq_false (show ¬ 0 < m by omega)
    have hXe := HX.out
    rw [if_neg hm0] at hXe
    have hP := O11.out
    rw [← hXe] at hP
    have O12 := Aside0.mk (Kd.R_below O8.out C12.out)
    have D12 := Aside0.mk (D8.out.below C12.out)
    have hcv := own_string (P := Try.prog) Try.underlying22 Try.underlying5 Try.underlying9 (Kd.own_of_R O12.out)
    have hcw := own_string (P := Try.prog) Try.underlying22 Try.underlying5 Try.underlying9 (Kd.own_of_R hP)
    clear hP
    rw [← hXe]
    rw [← hXe] at r1
    have HXe := Aside0.mk hXe
    clear hm0 hXe
    go_wp2_with fail
    refine (d_Room D12.out (OK.out _ _ _ _ (by rw [HXl.out, HTl.out]; have := HL0.out; have := HL1.out; have := HM.out; omega) (by rw [HXl.out, HTl.out]; have := HL0.out; have := HL1.out; have := HM.out; omega))).mono ?_; rintro x w13 ⟨rfl, hD, hB⟩; dsimp only; have B13 := Aside0.mk (below_step B11.out hB); clear hD hB
    go_wp2_with fail
    go_ret
    exact ⟨rfl, B13.out⟩
end Go.Proofs.Ythpdmjpimeibnaa.Pure
