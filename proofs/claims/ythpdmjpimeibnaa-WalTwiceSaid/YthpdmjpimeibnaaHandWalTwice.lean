/-
  WalTwice, walked by hand: any bytes on a disk are opened as the records that they begin with; opened again they are the same, and no byte more is there.
-/
import Derived.Test.YthpdmjpimeibnaaOOpen2
import Derived.Test.YthpdmjpimeibnaaHLogs
import Derived.Test.YthpdmjpimeibnaaPScan
import Derived.Test.YthpdmjpimeibnaaRowWalTwice
namespace Go.Proofs.Ythpdmjpimeibnaa.Pure
open Go.RowKit Go.Proofs.Ythpdmjpimeibnaa.M Go.Proofs.YthpdmjpimeibnaaW.PrintWords Go.Proofs.YthpdmjpimeibnaaW.PrintLast Go.Proofs.YthpdmjpimeibnaaW.PrintMore
set_option linter.unusedVariables false
set_option linter.unusedSimpArgs false
set_option maxHeartbeats 4000000 in
set_option maxRecDepth 100000 in
theorem WalTwice_hand (A0 : Option Addr) (c0 : Nat) (l0 : List Int) (w : World)
    (hr0 : Kd.C (Kd.int .u8) w A0 l0.length l0) (hc0 : l0.length ≤ c0)
    (g0 : l0.length * 1 ≤ 140737488351232 ∧ ∀ x ∈ l0, (Lit.int .u8 x).wf = true) :
    Calls Try.prog 9 #[.slice A0 l0.length c0] w fun e w' => e = .returned (.bool true) ∧ Below w.heap.size w w' := by
  have hB : Frame.Bytes l0 := wf_u8 g0
  have HB := Aside0.mk (Below.refl w.heap.size w)
  have HR0 := Aside0.mk hr0; have HC0 := Aside0.mk hc0; clear hr0 hc0
  by_cases h0_ : l0.length > 3000
  · have c0_ : decide (3000 < (l0.length : Int)) = true := decide_eq_true (by omega)
    have c1_ : decide ((l0.length : Int) > 3000) = true := decide_eq_true (by omega)
    clear h0_
    clear g0 hB
    go_enter Try.func9, Try.ntmps9
    go_wp2_with (first | (go_at_call 25; refine (logs_calls _).mono ?_; rintro e w1 ⟨rfl, hb⟩; have B1 := Aside0.mk (below_step HB.out hb); clear hb))
    go_ret
    exact ⟨rfl, B1.out⟩
  have c0a_ : decide (3000 < (l0.length : Int)) = false := decide_eq_false (by omega)
  have c0b_ : decide ((l0.length : Int) > 3000) = false := decide_eq_false (by omega)
  have HL0 := Aside0.mk (show l0.length ≤ 3000 by omega)
  have BB := Aside0.mk hB
  obtain ⟨rs, n, hsc⟩ : ∃ rs n, Frame.scan l0.length l0 = (rs, n) := ⟨_, _, rfl⟩
  obtain ⟨t, ht⟩ : ∃ t, t = l0.take n.toNat := ⟨_, rfl⟩
  obtain ⟨ha1, ha2, ha3, ha4⟩ := Frame.scan_again hB hsc ht
  obtain rfl : n = (t.length : Int) := ha2.symm
  have hrl := Frame.scan_length l0.length l0
  rw [hsc] at hrl
  obtain ⟨ks, hks⟩ := (same_ev rs (by dsimp only at hrl; omega)).rounds
  have href := Frame.ref_scan_ev (strOfNums l0) (by rw [strOfNums_size]; omega) l0.length 0 [] (Nat.zero_le _) (by rw [strOfNums_size]; omega) (by simp only [List.length_nil]; omega)
  rw [bs_str l0 hB, List.drop_zero, hsc] at href
  obtain ⟨kr, hkr⟩ := (show Ev (fun k => contraref05_Scan.f k (strOfNums l0)) (rs.map strOfNums, (t.length : Int)) from Ev.eq href (by simp)).rounds
  have OK := Aside0.mk (show ∀ s a, s.length ≤ 3000 → a.length ≤ 3000 → DS.Ok ⟨5000, s, a, false, false, -1⟩ from fun s a h1 h2 => ⟨by simp only; omega, by simp only; omega, by simp only; omega, by simp only; omega, by simp only; omega, by simp only; omega⟩)
  have E0 := Aside0.mk (show DS.write ⟨5000, [], [], false, false, -1⟩ l0 = (⟨5000, [], l0, false, false, -1⟩, 0) from write_free rfl (by decide) (by simp only [List.length_nil]; omega))
  have E1 := Aside0.mk (show DS.opened ⟨5000, [], l0, false, false, -1⟩ = ⟨5000, t, t, false, false, -1⟩ by unfold DS.opened; simp only; rw [hsc]; simp only; rw [← ht])
  have E2 := Aside0.mk (show DS.opened ⟨5000, t, t, false, false, -1⟩ = ⟨5000, t, t, false, false, -1⟩ by unfold DS.opened; simp only; rw [ha1]; simp)
  have HSC := Aside0.mk hsc; have HS2 := Aside0.mk ha1; have HTL := Aside0.mk ha2; have HTB := Aside0.mk ha3; have HT4 := Aside0.mk (show t.length ≤ 3000 by omega); have HKS := Aside0.mk hks; have HKR := Aside0.mk hkr; have HTT := Aside0.mk (show t = l0.take t.length from by rw [Int.toNat_natCast] at ht; exact ht)
  have HNL := Aside0.mk ha4
  clear h0_ g0 hB hsc ht ha1 ha2 ha3 ha4 hrl hks href hkr
  go_enter Try.func9, Try.ntmps9
  go_wp2_with fail
  refine (logs_calls _).mono ?_; rintro e w1 ⟨rfl, hb⟩; have B1 := Aside0.mk (below_step HB.out hb); clear hb HB
  have hcv := Kd.C_string (P := Try.prog) (c := c0) Try.underlying22 Try.underlying5 Try.underlying9 (Kd.C_below HR0.out B1.out)
  go_wp2_with fail
  clear hcv
  refine (contraref05_Scan.calls kr (strOfNums l0) _ _ _ HKR.out).mono ?_; rintro e w2 ⟨v2, rfl, hO, hB⟩
  obtain ⟨Aw, cw, rfl, hcw, hCw⟩ := Kd.R_reads hO
  rw [List.length_map] at hCw hcw ⊢
  have B2 := Aside0.mk (below_step B1.out hB); have CW := Aside0.mk hCw; have LW := Aside0.mk hcw; clear hO hB hCw hcw
  go_wp2_with fail
  refine (disk_New w2 (by omega) (by omega)).mono ?_; rintro x w3 ⟨g, rfl, hg, hD, hB⟩; have D3 := Aside0.mk hD; have B3 := Aside0.mk hB; clear hg hD hB
  go_wp2_with fail
  refine (s_Write (N := w2.heap.size) (b := l0) D3.out (OK.out _ _ (by simp) (by simp)) (fun k hk => hk) B3.out.size (came HR0.out (below_step B2.out B3.out) (fun k hk => Nat.le_trans B2.out.size hk)) HC0.out (by have := HL0.out; omega)).mono ?_; rintro x w4 ⟨rfl, hD, hB⟩; rw [E0.out] at hD ⊢; have D4 := Aside0.mk hD; have B4 := Aside0.mk (B3.out.trans hB); clear hD hB
  go_wp2_with fail
  refine (l_Open (N := w2.heap.size) D4.out (OK.out _ _ (by simp) HL0.out) B4.out.size rfl (by simp only; omega) BB.out).mono ?_; rintro x w5 ⟨gl, v5, rfl, hW, hS, hB⟩
  dsimp only at hW hS
  rw [E1.out, HSC.out] at hW; rw [HSC.out] at hS
  obtain ⟨A5, c5, rfl, hc5, hC5⟩ := Kd.S_reads hS
  dsimp only at hW hC5 hc5 ⊢
  have W5 := Aside0.mk hW; have B5 := Aside0.mk (B4.out.trans hB); have C5 := Aside0.mk hC5; have L5 := Aside0.mk hc5
  clear hW hS hB hC5 hc5
  have hsame := fun (w5 : World) (hCr : Kd.C (Kd.slice 5 (Kd.int .u8)) w5 A5 rs.length rs) (hCw : Kd.C Kd.string w5 Aw rs.length (rs.map strOfNums)) => contralaw07_same.calls ks A5 c5 rs Aw cw (rs.map strOfNums) true w5 hCr L5.out (by rw [List.length_map]; exact hCw) (by rw [List.length_map]; exact LW.out) HKS.out
  rw [List.length_map] at hsame
  have HSAME := Aside0.mk hsame
  clear hsame
  go_wp2_with fail
  refine (HSAME.out _ C5.out (Kd.C_below CW.out B5.out)).mono ?_; rintro y w6 ⟨rfl, hDr⟩
  have W6 := Aside0.mk (W5.out.below hDr.below); have B6 := Aside0.mk (B5.out.trans (hDr.below.mono B5.out.size)); clear hDr
  go_wp2_with fail
  refine (l_Len W6.out).mono ?_; rintro y w7 ⟨rfl, hW, hB⟩; have W7 := Aside0.mk hW; have B7 := Aside0.mk (B6.out.trans (hB.mono B6.out.size)); clear hW hB
  go_wp2_with fail
  refine (d_Read W7.out.1 (OK.out _ _ HT4.out HT4.out) rfl).mono ?_; rintro y w8 ⟨v8, rfl, hO, hD, hB⟩
  obtain ⟨A8, c8, rfl, hc8, -⟩ := Kd.R_reads hO
  have O8 := Aside0.mk hO; have D8 := Aside0.mk (W7.out.1.bound.below hB); have B8 := Aside0.mk (B7.out.trans (hB.mono B7.out.size)); have S8 := Aside0.mk hB.size; clear hO hD hB hc8
  go_wp2_with fail
  refine (lt_Open D8.out (OK.out _ _ HT4.out HT4.out) rfl (by simp only; omega) HTB.out).mono ?_; rintro y w9 ⟨gl2, v9, rfl, hW, hS, hK, hB⟩
  dsimp only at hW hS
  rw [E2.out, HS2.out] at hW; rw [HS2.out] at hS
  obtain ⟨A9, c9, rfl, hc9, hC9⟩ := Kd.S_reads hS
  dsimp only at hW hC9 hc9 ⊢
  have W9 := Aside0.mk hW; have C9 := Aside0.mk hC9; have L9 := Aside0.mk hc9
  have B9 := Aside0.mk (below_kept B8.out hB hK (fun k hk => hk.1.1))
  have CL := Aside0.mk (own_lit O8.out (fun k hk => hk.2) w9 hK)
  clear hW hS hB hC9 hc9 hK
  go_wp2_with fail
  refine (d_Read W9.out.1 (OK.out _ _ HT4.out HT4.out) rfl).mono ?_; rintro y w10 ⟨v10, rfl, hO, hD, hB⟩
  obtain ⟨A10, c10, rfl, hc10, hC10⟩ := Kd.R_reads hO
  have C10 := Aside0.mk hC10; have D10 := Aside0.mk hD; have B10 := Aside0.mk (B9.out.trans (hB.mono B9.out.size)); have BX := Aside0.mk hB; clear hO hD hB hc10 hC10
  go_wp2_with fail
  have hsame := fun (w5 : World) (hCr : Kd.C (Kd.slice 5 (Kd.int .u8)) w5 A9 rs.length rs) (hCw : Kd.C Kd.string w5 Aw rs.length (rs.map strOfNums)) => contralaw07_same.calls ks A9 c9 rs Aw cw (rs.map strOfNums) true w5 hCr L9.out (by rw [List.length_map]; exact hCw) (by rw [List.length_map]; exact LW.out) HKS.out
  rw [List.length_map] at hsame
  have HSAME9 := Aside0.mk hsame
  have BZ := Aside0.mk (below_step B2.out B10.out)
  have F0 := Aside0.mk (Kd.C_below CL.out BX.out)
  have f1 := Kd.C_take (m := t.length) (Kd.C_below HR0.out BZ.out) HNL.out
  rw [← HTT.out] at f1
  have F1 := Aside0.mk f1
  have F2 := C10
  have F3 := Aside0.mk (Kd.C_below C9.out BX.out)
  have F4 := Aside0.mk (Kd.C_below CW.out B10.out)
  have n1 : decide ((t.length : Int) ≤ (c0 : Int)) = true := decide_eq_true (by have := HNL.out; have := HC0.out; omega)
  have n2 := eq_true (show (t.length : Int) ≤ (c0 : Int) by have := HNL.out; have := HC0.out; omega)
  have n3 := eq_true (show t.length ≤ c0 by have := HNL.out; have := HC0.out; omega)
  clear hsame f1
--REG1
  refine start_ (n := 34) (S := fun w' => (convert 22 9 (.slice A8 t.length c8)).run Try.prog w' = .ok (.string (strOfNums t)) w' ∧ (convert 22 9 (.slice A0 t.length c0)).run Try.prog w' = .ok (.string (strOfNums t)) w' ∧ (convert 22 9 (.slice A10 t.length c10)).run Try.prog w' = .ok (.string (strOfNums t)) w') (ds := []) #[false, false, false, false, false, false, false, false, false, false, false, false, false, false, false, false, false, false, false, false, false, false, false, false, false, false, false, false, false, false, false, false, false, false] (by kernel_rfl) rfl rfl ⟨(Kd.C_string (P := Try.prog) Try.underlying22 Try.underlying5 Try.underlying9 (Kd.C_below F0.out (below_drew (Below.refl _ _)))), (Kd.C_string (P := Try.prog) Try.underlying22 Try.underlying5 Try.underlying9 (Kd.C_below F1.out (below_drew (Below.refl _ _)))), (Kd.C_string (P := Try.prog) Try.underlying22 Try.underlying5 Try.underlying9 (Kd.C_below F2.out (below_drew (Below.refl _ _))))⟩ (fun hHeld => ?_)
  refine pure_ (i := 0) (N := some 76) (v := ?_) (a' := ?_) #[true, false, false, false, false, false, false, false, false, false, false, false, false, false, false, false, false, false, false, false, false, false, false, false, false, false, false, false, false, false, false, false, false, false] rfl rfl (by kernel_rfl) (fun _ _ _ h => h) (Or.inl ⟨by rfl, ?_⟩) ?_ ?_
  rotate_left
  · intro w'
    go_simp
    with_reducible rfl
  rotate_left
  · simp only [Act.put, List.setIfInBounds_toArray, List.set_cons_zero, List.set_cons_succ, i64_w, i32_w]
    rfl
  refine pure_ (i := 1) (N := some 77) (v := ?_) (a' := ?_) #[true, true, false, false, false, false, false, false, false, false, false, false, false, false, false, false, false, false, false, false, false, false, false, false, false, false, false, false, false, false, false, false, false, false] rfl rfl (by kernel_rfl) (fun _ _ _ h => h) (Or.inl ⟨by rfl, ?_⟩) ?_ ?_
  rotate_left
  · intro w'
    go_simp
    with_reducible rfl
  rotate_left
  · simp only [Act.put, List.setIfInBounds_toArray, List.set_cons_zero, List.set_cons_succ, i64_w, i32_w]
    rfl
  refine pure_ (i := 2) (N := some 78) (v := ?_) (a' := ?_) #[true, true, true, false, false, false, false, false, false, false, false, false, false, false, false, false, false, false, false, false, false, false, false, false, false, false, false, false, false, false, false, false, false, false] rfl rfl (by kernel_rfl) (fun _ _ _ h => h) (Or.inl ⟨by rfl, ?_⟩) ?_ ?_
  rotate_left
  · intro w'
    go_simp
    with_reducible rfl
  rotate_left
  · simp only [Act.put, List.setIfInBounds_toArray, List.set_cons_zero, List.set_cons_succ, i64_w, i32_w]
    rfl
  refine pure_ (i := 3) (N := some 79) (v := ?_) (a' := ?_) #[true, true, true, true, false, false, false, false, false, false, false, false, false, false, false, false, false, false, false, false, false, false, false, false, false, false, false, false, false, false, false, false, false, false] rfl rfl (by kernel_rfl) (fun _ _ _ h => h) (Or.inl ⟨by rfl, ?_⟩) ?_ ?_
  rotate_left
  · intro w'
    go_simp
    with_reducible rfl
  rotate_left
  · simp only [Act.put, List.setIfInBounds_toArray, List.set_cons_zero, List.set_cons_succ, i64_w, i32_w]
    rfl
  refine pure_ (i := 4) (N := some 80) (v := ?_) (a' := ?_) #[true, true, true, true, true, false, false, false, false, false, false, false, false, false, false, false, false, false, false, false, false, false, false, false, false, false, false, false, false, false, false, false, false, false] rfl rfl (by kernel_rfl) (fun _ _ _ h => h) (Or.inl ⟨by rfl, ?_⟩) ?_ ?_
  rotate_left
  · intro w'
    go_simp
    with_reducible rfl
  rotate_left
  · simp only [Act.put, List.setIfInBounds_toArray, List.set_cons_zero, List.set_cons_succ, i64_w, i32_w]
    rfl
  refine pure_ (i := 5) (N := some 81) (v := ?_) (a' := ?_) #[true, true, true, true, true, true, false, false, false, false, false, false, false, false, false, false, false, false, false, false, false, false, false, false, false, false, false, false, false, false, false, false, false, false] rfl rfl (by kernel_rfl) (fun _ _ _ h => h) (Or.inl ⟨by rfl, ?_⟩) ?_ ?_
  rotate_left
  · intro w'
    go_simp
    with_reducible rfl
  rotate_left
  · simp only [Act.put, List.setIfInBounds_toArray, List.set_cons_zero, List.set_cons_succ, i64_w, i32_w]
    rfl
  refine pure_ (i := 6) (N := some 82) (v := ?_) (a' := ?_) #[true, true, true, true, true, true, true, false, false, false, false, false, false, false, false, false, false, false, false, false, false, false, false, false, false, false, false, false, false, false, false, false, false, false] rfl rfl (by kernel_rfl) (fun _ _ _ h => h) (Or.inl ⟨by rfl, ?_⟩) ?_ ?_
  rotate_left
  · intro w'
    go_simp
    with_reducible rfl
  rotate_left
  · simp only [Act.put, List.setIfInBounds_toArray, List.set_cons_zero, List.set_cons_succ, i64_w, i32_w]
    rfl
  refine pure_ (i := 7) (N := some 83) (v := ?_) (a' := ?_) #[true, true, true, true, true, true, true, true, false, false, false, false, false, false, false, false, false, false, false, false, false, false, false, false, false, false, false, false, false, false, false, false, false, false] rfl rfl (by kernel_rfl) (fun _ _ _ h => h) (Or.inl ⟨by rfl, ?_⟩) ?_ ?_
  rotate_left
  · intro w'
    go_simp
    with_reducible rfl
  rotate_left
  · simp only [Act.put, List.setIfInBounds_toArray, List.set_cons_zero, List.set_cons_succ, i64_w, i32_w]
    rfl
  refine pure_ (i := 8) (N := some 84) (v := ?_) (a' := ?_) #[true, true, true, true, true, true, true, true, true, false, false, false, false, false, false, false, false, false, false, false, false, false, false, false, false, false, false, false, false, false, false, false, false, false] rfl rfl (by kernel_rfl) (fun _ _ _ h => h) (Or.inl ⟨by rfl, ?_⟩) ?_ ?_
  rotate_left
  · intro w'
    go_simp
    with_reducible rfl
  rotate_left
  · simp only [Act.put, List.setIfInBounds_toArray, List.set_cons_zero, List.set_cons_succ, i64_w, i32_w]
    rfl
  refine one_ (i := 9) (N := some 85) #[true, true, true, true, true, true, true, true, true, true, false, false, false, false, false, false, false, false, false, false, false, false, false, false, false, false, false, false, false, false, false, false, false, false] rfl rfl (by kernel_rfl) (by decide) (fun K hK => ?_)
  refine goes_ Try.func29 (by kernel_rfl) rfl #[.slice A9 rs.length c9, .slice Aw rs.length cw] (by rfl) rfl rfl (by simp only [List.map_toArray, List.map_cons, List.map_nil]; rfl) ?_
  with_reducible refine (HSAME9.out _ (Kd.C_below F3.out (below_drew (Below.refl _ _))) (Kd.C_below F4.out (below_drew (Below.refl _ _)))).mono ?_
  rintro e w11 ⟨rfl, hDr⟩
  refine ⟨_, rfl, ?_⟩
  have B11 := Aside0.mk (show Below w10.heap.size w10 w11 from (below_drew (Below.refl _ _)).trans hDr.below)
  clear hDr
  refine hK.out _ _ ⟨(Kd.C_string (P := Try.prog) Try.underlying22 Try.underlying5 Try.underlying9 (Kd.C_below F0.out (B11.out))), (Kd.C_string (P := Try.prog) Try.underlying22 Try.underlying5 Try.underlying9 (Kd.C_below F1.out (B11.out))), (Kd.C_string (P := Try.prog) Try.underlying22 Try.underlying5 Try.underlying9 (Kd.C_below F2.out (B11.out)))⟩ (fun hHeld => ?_)
  clear hK K
  refine norm_ (a' := ?_) ?_ ?_
  rotate_left
  · show Act.put _ (some 85) _ = _
    simp only [Act.put, List.setIfInBounds_toArray, List.set_cons_zero, List.set_cons_succ, i64_w, i32_w]
    rfl
  refine pure_ (i := 10) (N := some 86) (v := ?_) (a' := ?_) #[true, true, true, true, true, true, true, true, true, true, true, false, false, false, false, false, false, false, false, false, false, false, false, false, false, false, false, false, false, false, false, false, false, false] rfl rfl (by kernel_rfl) (fun _ _ _ h => h) (Or.inl ⟨by rfl, ?_⟩) ?_ ?_
  rotate_left
  · intro w'
    go_simp
    with_reducible rfl
  rotate_left
  · simp only [Act.put, List.setIfInBounds_toArray, List.set_cons_zero, List.set_cons_succ, i64_w, i32_w]
    rfl
  refine pure_ (i := 11) (N := some 87) (v := ?_) (a' := ?_) #[true, true, true, true, true, true, true, true, true, true, true, true, false, false, false, false, false, false, false, false, false, false, false, false, false, false, false, false, false, false, false, false, false, false] rfl rfl (by kernel_rfl) (fun _ _ _ h => h) (Or.inl ⟨by rfl, ?_⟩) ?_ ?_
  rotate_left
  · intro w'
    go_simp
    with_reducible rfl
  rotate_left
  · simp only [Act.put, List.setIfInBounds_toArray, List.set_cons_zero, List.set_cons_succ, i64_w, i32_w]
    rfl
  refine pure_ (i := 12) (N := some 88) (v := ?_) (a' := ?_) #[true, true, true, true, true, true, true, true, true, true, true, true, true, false, false, false, false, false, false, false, false, false, false, false, false, false, false, false, false, false, false, false, false, false] rfl rfl (by kernel_rfl) (fun _ _ _ h => h) (Or.inl ⟨by rfl, ?_⟩) ?_ ?_
  rotate_left
  · intro w'
    go_simp
    with_reducible rfl
  rotate_left
  · simp only [Act.put, List.setIfInBounds_toArray, List.set_cons_zero, List.set_cons_succ, i64_w, i32_w]
    rfl
  refine pure_ (i := 14) (N := some 90) (v := ?_) (a' := ?_) #[true, true, true, true, true, true, true, true, true, true, true, true, true, false, true, false, false, false, false, false, false, false, false, false, false, false, false, false, false, false, false, false, false, false] rfl rfl (by kernel_rfl) (fun _ _ _ h => h) (Or.inl ⟨by rfl, ?_⟩) ?_ ?_
  rotate_left
  · intro w'
    go_simp
    with_reducible rfl
  rotate_left
  · simp only [Act.put, List.setIfInBounds_toArray, List.set_cons_zero, List.set_cons_succ, i64_w, i32_w]
    rfl
  refine pure_ (i := 15) (N := some 91) (v := ?_) (a' := ?_) #[true, true, true, true, true, true, true, true, true, true, true, true, true, false, true, true, false, false, false, false, false, false, false, false, false, false, false, false, false, false, false, false, false, false] rfl rfl (by kernel_rfl) (fun _ _ _ h => h) (Or.inl ⟨by rfl, ?_⟩) ?_ ?_
  rotate_left
  · intro w'
    go_simp
    with_reducible rfl
  rotate_left
  · simp only [Act.put, List.setIfInBounds_toArray, List.set_cons_zero, List.set_cons_succ, i64_w, i32_w]
    rfl
  refine pure_ (i := 16) (N := some 92) (v := ?_) (a' := ?_) #[true, true, true, true, true, true, true, true, true, true, true, true, true, false, true, true, true, false, false, false, false, false, false, false, false, false, false, false, false, false, false, false, false, false] rfl rfl (by kernel_rfl) (fun _ _ _ h => h) (Or.inl ⟨by rfl, ?_⟩) ?_ ?_
  rotate_left
  · intro w'
    go_simp
    with_reducible rfl
  rotate_left
  · simp only [Act.put, List.setIfInBounds_toArray, List.set_cons_zero, List.set_cons_succ, i64_w, i32_w]
    rfl
  refine take_ (i := 13) (N := some 89) (v := ?_) (a' := ?_) #[true, true, true, true, true, true, true, true, true, true, true, true, true, true, true, true, true, false, false, false, false, false, false, false, false, false, false, false, false, false, false, false, false, false] rfl rfl (by kernel_rfl) (fun _ _ _ h => h) (Or.inl ⟨by rfl, ?_⟩) hHeld ?_ ?_
  rotate_left
  · rintro w' ⟨s0, s1, s2⟩
    go_simp
    with_reducible rfl
  rotate_left
  · simp only [Act.put, List.setIfInBounds_toArray, List.set_cons_zero, List.set_cons_succ, i64_w, i32_w]
    rfl
  refine take_ (i := 17) (N := some 93) (v := ?_) (a' := ?_) #[true, true, true, true, true, true, true, true, true, true, true, true, true, true, true, true, true, true, false, false, false, false, false, false, false, false, false, false, false, false, false, false, false, false] rfl rfl (by kernel_rfl) (fun _ _ _ h => h) (Or.inl ⟨by rfl, ?_⟩) hHeld ?_ ?_
  rotate_left
  · rintro w' ⟨s0, s1, s2⟩
    go_simp
    with_reducible rfl
  rotate_left
  · simp only [Act.put, List.setIfInBounds_toArray, List.set_cons_zero, List.set_cons_succ, i64_w, i32_w]
    rfl
  refine pure_ (i := 18) (N := some 94) (v := ?_) (a' := ?_) #[true, true, true, true, true, true, true, true, true, true, true, true, true, true, true, true, true, true, true, false, false, false, false, false, false, false, false, false, false, false, false, false, false, false] rfl rfl (by kernel_rfl) (fun _ _ _ h => h) (Or.inl ⟨by rfl, ?_⟩) ?_ ?_
  rotate_left
  · intro w'
    go_simp
    with_reducible rfl
  rotate_left
  · simp only [Act.put, List.setIfInBounds_toArray, List.set_cons_zero, List.set_cons_succ, i64_w, i32_w]
    rfl
  refine pure_ (i := 19) (N := some 95) (v := ?_) (a' := ?_) #[true, true, true, true, true, true, true, true, true, true, true, true, true, true, true, true, true, true, true, true, false, false, false, false, false, false, false, false, false, false, false, false, false, false] rfl rfl (by kernel_rfl) (fun _ _ _ h => h) (Or.inl ⟨by rfl, ?_⟩) ?_ ?_
  rotate_left
  · intro w'
    go_simp
    with_reducible rfl
  rotate_left
  · simp only [Act.put, List.setIfInBounds_toArray, List.set_cons_zero, List.set_cons_succ, i64_w, i32_w]
    rfl
  refine pure_ (i := 20) (N := some 96) (v := ?_) (a' := ?_) #[true, true, true, true, true, true, true, true, true, true, true, true, true, true, true, true, true, true, true, true, true, false, false, false, false, false, false, false, false, false, false, false, false, false] rfl rfl (by kernel_rfl) (fun _ _ _ h => h) (Or.inl ⟨by rfl, ?_⟩) ?_ ?_
  rotate_left
  · intro w'
    go_simp
    with_reducible rfl
  rotate_left
  · simp only [Act.put, List.setIfInBounds_toArray, List.set_cons_zero, List.set_cons_succ, i64_w, i32_w]
    rfl
  refine pure_ (i := 21) (N := some 97) (v := ?_) (a' := ?_) #[true, true, true, true, true, true, true, true, true, true, true, true, true, true, true, true, true, true, true, true, true, true, false, false, false, false, false, false, false, false, false, false, false, false] rfl rfl (by kernel_rfl) (fun _ _ _ h => h) (Or.inl ⟨by rfl, ?_⟩) ?_ ?_
  rotate_left
  · intro w'
    go_simp
    with_reducible rfl
  rotate_left
  · simp only [Act.put, List.setIfInBounds_toArray, List.set_cons_zero, List.set_cons_succ, i64_w, i32_w]
    rfl
  refine pure_ (i := 23) (N := some 99) (v := ?_) (a' := ?_) #[true, true, true, true, true, true, true, true, true, true, true, true, true, true, true, true, true, true, true, true, true, true, false, true, false, false, false, false, false, false, false, false, false, false] rfl rfl (by kernel_rfl) (fun _ _ _ h => h) (Or.inl ⟨by rfl, ?_⟩) ?_ ?_
  rotate_left
  · intro w'
    go_simp
    with_reducible rfl
  rotate_left
  · simp only [Act.put, List.setIfInBounds_toArray, List.set_cons_zero, List.set_cons_succ, i64_w, i32_w]
    rfl
  refine take_ (i := 22) (N := some 98) (v := ?_) (a' := ?_) #[true, true, true, true, true, true, true, true, true, true, true, true, true, true, true, true, true, true, true, true, true, true, true, true, false, false, false, false, false, false, false, false, false, false] rfl rfl (by kernel_rfl) (fun _ _ _ h => h) (Or.inl ⟨by rfl, ?_⟩) hHeld ?_ ?_
  rotate_left
  · rintro w' ⟨s0, s1, s2⟩
    go_simp
    with_reducible rfl
  rotate_left
  · simp only [Act.put, List.setIfInBounds_toArray, List.set_cons_zero, List.set_cons_succ, i64_w, i32_w]
    rfl
  refine take_ (i := 24) (N := some 100) (v := ?_) (a' := ?_) #[true, true, true, true, true, true, true, true, true, true, true, true, true, true, true, true, true, true, true, true, true, true, true, true, true, false, false, false, false, false, false, false, false, false] rfl rfl (by kernel_rfl) (fun _ _ _ h => h) (Or.inl ⟨by rfl, ?_⟩) hHeld ?_ ?_
  rotate_left
  · rintro w' ⟨s0, s1, s2⟩
    go_simp
    with_reducible rfl
  rotate_left
  · simp only [Act.put, List.setIfInBounds_toArray, List.set_cons_zero, List.set_cons_succ, i64_w, i32_w]
    rfl
  refine pure_ (i := 25) (N := some 101) (v := ?_) (a' := ?_) #[true, true, true, true, true, true, true, true, true, true, true, true, true, true, true, true, true, true, true, true, true, true, true, true, true, true, false, false, false, false, false, false, false, false] rfl rfl (by kernel_rfl) (fun _ _ _ h => h) (Or.inl ⟨by rfl, ?_⟩) ?_ ?_
  rotate_left
  · intro w'
    go_simp
    with_reducible rfl
  rotate_left
  · simp only [Act.put, List.setIfInBounds_toArray, List.set_cons_zero, List.set_cons_succ, i64_w, i32_w]
    rfl
  refine pure_ (i := 26) (N := some 102) (v := ?_) (a' := ?_) #[true, true, true, true, true, true, true, true, true, true, true, true, true, true, true, true, true, true, true, true, true, true, true, true, true, true, true, false, false, false, false, false, false, false] rfl rfl (by kernel_rfl) (fun _ _ _ h => h) (Or.inl ⟨by rfl, ?_⟩) ?_ ?_
  rotate_left
  · intro w'
    go_simp
    with_reducible rfl
  rotate_left
  · simp only [Act.put, List.setIfInBounds_toArray, List.set_cons_zero, List.set_cons_succ, i64_w, i32_w]
    rfl
  refine pure_ (i := 27) (N := some 103) (v := ?_) (a' := ?_) #[true, true, true, true, true, true, true, true, true, true, true, true, true, true, true, true, true, true, true, true, true, true, true, true, true, true, true, true, false, false, false, false, false, false] rfl rfl (by kernel_rfl) (fun _ _ _ h => h) (Or.inl ⟨by rfl, ?_⟩) ?_ ?_
  rotate_left
  · intro w'
    go_simp
    with_reducible rfl
  rotate_left
  · simp only [Act.put, List.setIfInBounds_toArray, List.set_cons_zero, List.set_cons_succ, i64_w, i32_w]
    rfl
  refine pure_ (i := 28) (N := some 104) (v := ?_) (a' := ?_) #[true, true, true, true, true, true, true, true, true, true, true, true, true, true, true, true, true, true, true, true, true, true, true, true, true, true, true, true, true, false, false, false, false, false] rfl rfl (by kernel_rfl) (fun _ _ _ h => h) (Or.inl ⟨by rfl, ?_⟩) ?_ ?_
  rotate_left
  · intro w'
    go_simp
    with_reducible rfl
  rotate_left
  · simp only [Act.put, List.setIfInBounds_toArray, List.set_cons_zero, List.set_cons_succ, i64_w, i32_w]
    rfl
  refine pure_ (i := 30) (N := some 106) (v := ?_) (a' := ?_) #[true, true, true, true, true, true, true, true, true, true, true, true, true, true, true, true, true, true, true, true, true, true, true, true, true, true, true, true, true, false, true, false, false, false] rfl rfl (by kernel_rfl) (fun _ _ _ h => h) (Or.inl ⟨by rfl, ?_⟩) ?_ ?_
  rotate_left
  · intro w'
    go_simp
    with_reducible rfl
  rotate_left
  · simp only [Act.put, List.setIfInBounds_toArray, List.set_cons_zero, List.set_cons_succ, i64_w, i32_w]
    rfl
  refine one_ (i := 29) (N := some 105) #[true, true, true, true, true, true, true, true, true, true, true, true, true, true, true, true, true, true, true, true, true, true, true, true, true, true, true, true, true, true, true, false, false, false] rfl rfl (by kernel_rfl) (by decide) (fun K hK => ?_)
  refine goes_ Try.func22 (by kernel_rfl) rfl #[.pointer (some ⟨g, 0, none⟩)] (by rfl) rfl rfl (by simp only [List.map_toArray, List.map_cons, List.map_nil]; rfl) ?_
  with_reducible refine (d_Sure (D10.out.below B11.out)).mono ?_
  rintro e w12 ⟨rfl, hD, hb⟩
  refine ⟨_, rfl, ?_⟩
  have B12 := Aside0.mk (B11.out.trans (hb.mono B11.out.size))
  clear hD hb
  refine hK.out _ _ ⟨(Kd.C_string (P := Try.prog) Try.underlying22 Try.underlying5 Try.underlying9 (Kd.C_below F0.out (B12.out))), (Kd.C_string (P := Try.prog) Try.underlying22 Try.underlying5 Try.underlying9 (Kd.C_below F1.out (B12.out))), (Kd.C_string (P := Try.prog) Try.underlying22 Try.underlying5 Try.underlying9 (Kd.C_below F2.out (B12.out)))⟩ (fun hHeld => ?_)
  clear hK K
  refine norm_ (a' := ?_) ?_ ?_
  rotate_left
  · show Act.put _ (some 105) _ = _
    simp only [Act.put, List.setIfInBounds_toArray, List.set_cons_zero, List.set_cons_succ, i64_w, i32_w]
    rfl
  refine pure_ (i := 31) (N := some 107) (v := ?_) (a' := ?_) #[true, true, true, true, true, true, true, true, true, true, true, true, true, true, true, true, true, true, true, true, true, true, true, true, true, true, true, true, true, true, true, true, false, false] rfl rfl (by kernel_rfl) (fun _ _ _ h => h) (Or.inl ⟨by rfl, ?_⟩) ?_ ?_
  rotate_left
  · intro w'
    go_simp
    with_reducible rfl
  rotate_left
  · simp only [Act.put, List.setIfInBounds_toArray, List.set_cons_zero, List.set_cons_succ, i64_w, i32_w]
    rfl
  refine pure_ (i := 32) (N := some 108) (v := ?_) (a' := ?_) #[true, true, true, true, true, true, true, true, true, true, true, true, true, true, true, true, true, true, true, true, true, true, true, true, true, true, true, true, true, true, true, true, true, false] rfl rfl (by kernel_rfl) (fun _ _ _ h => h) (Or.inl ⟨by rfl, ?_⟩) ?_ ?_
  rotate_left
  · intro w'
    go_simp
    with_reducible rfl
  rotate_left
  · simp only [Act.put, List.setIfInBounds_toArray, List.set_cons_zero, List.set_cons_succ, i64_w, i32_w]
    rfl
  refine pure_ (i := 33) (N := some 2) (v := ?_) (a' := ?_) #[true, true, true, true, true, true, true, true, true, true, true, true, true, true, true, true, true, true, true, true, true, true, true, true, true, true, true, true, true, true, true, true, true, true] rfl rfl (by kernel_rfl) (fun _ _ _ h => h) (Or.inl ⟨by rfl, ?_⟩) ?_ ?_
  rotate_left
  · intro w'
    go_simp
    with_reducible rfl
  rotate_left
  · simp only [Act.put, List.setIfInBounds_toArray, List.set_cons_zero, List.set_cons_succ, i64_w, i32_w]
    rfl
  refine done_ (by kernel_rfl) ?_
--END1
  go_wp2
  go_ret
  exact ⟨rfl, below_step B2.out (B10.out.trans (B12.out.mono B10.out.size))⟩
end Go.Proofs.Ythpdmjpimeibnaa.Pure
