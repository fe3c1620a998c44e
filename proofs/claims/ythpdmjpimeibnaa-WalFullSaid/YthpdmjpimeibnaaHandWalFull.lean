/-
  WalFull, walked by hand: a record for which there is no room is refused, and is not there.
-/
import Derived.Test.YthpdmjpimeibnaaOWal3
import Derived.Test.YthpdmjpimeibnaaHLogs
import Derived.Test.YthpdmjpimeibnaaPWal
import Derived.Test.YthpdmjpimeibnaaRowWalFull
namespace Go.Proofs.Ythpdmjpimeibnaa.Pure
open Go.RowKit Go.Proofs.Ythpdmjpimeibnaa.M Go.Proofs.YthpdmjpimeibnaaW.PrintWords Go.Proofs.YthpdmjpimeibnaaW.PrintLast Go.Proofs.YthpdmjpimeibnaaW.PrintMore
set_option linter.unusedVariables false
set_option linter.unusedSimpArgs false
theorem crash_whole0 {d : DS} {keep turn : Int} (hr : d.renew = false) (hs : d.sure = d.all) : d.crash keep turn = { d with down := true, fuse := -1 } := by
  have ht : d.torn keep = d.all.length := by unfold DS.torn; rw [hs]; omega
  unfold DS.crash
  rw [if_neg (by simp [hr]), ht, if_neg (by rw [hs]; omega), List.take_length]
theorem at_boolN {w : World} {ad : Addr} {n : Nat} {xs : List Bool} (h : Kd.bool.C w (some ad) n xs) (i : Nat) (h1 : i < n) : w.cell? (ad.add i) = some (.bool (rdOf false xs (i : Int))) := by
  obtain ⟨ad2, e, hx⟩ := Kd.at_bool h (i : Int) (by omega) (by omega)
  obtain rfl : ad = ad2 := by injection e
  rwa [Int.toNat_natCast] at hx
theorem at_some {α : Type} {d : Kd α} {w : World} {A : Option Addr} {n : Nat} {xs : List α} (h : d.C w A n xs) (h0 : 0 < n) : ∃ ad, A = some ad := by
  obtain ⟨h1, _, h3⟩ := h
  obtain ⟨ad, e, _⟩ := h3 (by omega)
  exact ⟨ad, e⟩
theorem all_len : ∀ (ds : List (List Int)), (∀ d ∈ ds, d.length ≤ 1000) → (Frame.all ds).length ≤ 1008 * ds.length := by
  intro ds
  induction ds with
  | nil => intro _; simp [Frame.all]
  | cons d ds ih =>
    intro h
    have h1 := ih (fun x hx => h x (by simp [hx]))
    have h2 := h d (by simp)
    rw [Frame.all_cons, List.length_append, Frame.rec_length, List.length_cons]
    omega
set_option maxHeartbeats 4000000 in
set_option maxRecDepth 100000 in
theorem WalFull_hand (room : Int) (A0 : Option Addr) (c0 : Nat) (l0 : List (List Int)) (w : World)
    (hr0 : Kd.C (Kd.slice 5 (Kd.int .u8)) w A0 l0.length l0) (hc0 : l0.length ≤ c0)
    (g1 : (Lit.int .i64 room).wf = true) (g0 : l0.length * 24 ≤ 140737488351232 ∧ ∀ x ∈ l0, (x.length * 1 ≤ 140737488351232 ∧ ∀ y0_ ∈ x, (Lit.int .u8 y0_).wf = true)) :
    Calls Try.prog 7 #[.int .i64 room, .slice A0 l0.length c0] w fun e w' => e = .returned (.bool true) ∧ Below w.heap.size w w' := by
  have hR : -9223372036854775808 ≤ room ∧ room ≤ 9223372036854775807 := by simp [Lit.wf, IntKind.min, IntKind.max, IntKind.signed, IntKind.bits] at g1; omega
  have hB : ∀ x ∈ l0, Frame.Bytes x := fun x hx => wf_u8 (g0.2 x hx)
  have HB := Aside0.mk (Below.refl w.heap.size w)
  have HR0 := Aside0.mk hr0; have HC0 := Aside0.mk hc0; clear hr0 hc0
  by_cases ha : room < 0
  · have c0_ : decide (room < 0) = true := decide_eq_true ha
    clear ha
    clear g0 g1 hB hR
    go_enter Try.func7, Try.ntmps7
    go_wp2_with (first | (go_at_call 25; refine (logs_calls _).mono ?_; rintro e w1 ⟨rfl, hb⟩; have B1 := Aside0.mk (below_step HB.out hb); clear hb))
    go_ret
    exact ⟨rfl, B1.out⟩
  have ca_ : decide (room < 0) = false := decide_eq_false ha
  by_cases hb : room > 1048576
  · have c0_ : decide (room > 1048576) = true := decide_eq_true hb
    have c1_ : decide (1048576 < room) = true := decide_eq_true hb
    clear ha hb
    clear g0 g1 hB hR
    go_enter Try.func7, Try.ntmps7
    go_wp2_with (first | (go_at_call 25; refine (logs_calls _).mono ?_; rintro e w1 ⟨rfl, hb⟩; have B1 := Aside0.mk (below_step HB.out hb); clear hb))
    go_ret
    exact ⟨rfl, B1.out⟩
  have cb_ : decide (room > 1048576) = false := decide_eq_false hb
  have cc_ : decide (1048576 < room) = false := decide_eq_false hb
  by_cases h0_ : l0.length > 20
  · have c0_ : decide (20 < (l0.length : Int)) = true := decide_eq_true (by omega)
    have c1_ : decide ((l0.length : Int) > 20) = true := decide_eq_true (by omega)
    clear ha hb h0_
    clear g0 g1 hB hR
    go_enter Try.func7, Try.ntmps7
    go_wp2_with (first | (go_at_call 25; refine (logs_calls _).mono ?_; rintro e w1 ⟨rfl, hb⟩; have B1 := Aside0.mk (below_step HB.out hb); clear hb))
    go_ret
    exact ⟨rfl, B1.out⟩
  have c0a_ : decide (20 < (l0.length : Int)) = false := decide_eq_false (by omega)
  have c0b_ : decide ((l0.length : Int) > 20) = false := decide_eq_false (by omega)
  have HL0 := Aside0.mk (show l0.length ≤ 20 by omega)
  have HRM := Aside0.mk (show 0 ≤ room ∧ room ≤ 1048576 by omega)
  have BB := Aside0.mk hB
  have OK := Aside0.mk (show ∀ s a r dn, (s.length : Int) ≤ room → (a.length : Int) ≤ room → DS.Ok ⟨room, s, a, r, dn, -1⟩ from fun s a r dn h1 h2 => ⟨by simp only; omega, by simp only; omega, by simp only; omega, by simp only; omega, by simp only; omega, by simp only; omega⟩)
  have E1 := Aside0.mk (show DS.opened ⟨room, [], [], false, false, -1⟩ = ⟨room, [], [], false, false, -1⟩ from rfl)
  clear h0_ g1 hB ha hb hR
  go_enter Try.func7, Try.ntmps7
  go_wp2_with fail
  refine (logs_calls _).mono ?_; rintro e w1 ⟨rfl, hb⟩; have B1 := Aside0.mk (below_step HB.out hb); clear hb HB
  go_wp2_with fail
  refine (disk_New w1 HRM.out.1 (by have := HRM.out.2; omega)).mono ?_; rintro x w2 ⟨g, rfl, hg, hD, hB⟩; have D2 := Aside0.mk (hD.mono (P' := fun k => w.heap.size ≤ k) (fun k hk => Nat.le_trans B1.out.size hk)); have B2 := Aside0.mk (below_step B1.out hB); clear hg hD hB
  go_wp2_with fail
  refine (l_Open D2.out (OK.out _ _ _ _ HRM.out.1 HRM.out.1) B2.out.size rfl (by simp only; omega) (fun x hx => by simp at hx)).mono ?_; rintro x w3 ⟨gl, v3, rfl, hW, hS, hB⟩; rw [E1.out] at hW; have W3 := Aside0.mk (IsT.of (show IsW w.heap.size w3 g gl ⟨room, [], [], false, false, -1⟩ 0 from hW)); have B3 := Aside0.mk (B2.out.trans hB); clear hW hS hB
  go_wp2_with fail
  go_loopg [10, 11, 46] (l0.length + 1) (fun kq v10 v11 v46 w' => ∃ (i : Nat) (T : Nat → Prop) (ds : List (List Int)), v11 = .int .i64 ((Frame.all ds).length : Int) ∧ v46 = .int .i64 (i : Int) ∧ Aside0 (i ≤ l0.length ∧ i + kq = l0.length + 1 ∧ ((Frame.all ds).length : Int) ≤ room ∧ ds.length ≤ i ∧ (∀ x ∈ ds, Frame.Bytes x ∧ x.length ≤ 16384)) ∧ Aside0 (IsT T w' g gl ⟨room, Frame.all ds, Frame.all ds, false, false, -1⟩ (ds.length : Int)) ∧ Aside0 (∀ k, T k → w.heap.size ≤ k) ∧
    Aside0 (Kd.R Kd.string 9 w' w.heap.size (fun k => ¬ T k) v10 (ds.map strOfNums)) ∧ Aside0 (Below w.heap.size w w'))
  case atStart => exact ⟨0, _, [], rfl, rfl, ⟨by omega, by omega, HRM.out.1, by simp, by simp⟩, W3, ⟨fun k hk => hk⟩, ⟨Kd.R_nil _ _ _ _ _⟩, B3⟩
  case round =>
    obtain ⟨i, T, ds, rfl, rfl, HI, W5, HT, HO5, B5⟩ := hrel
    obtain ⟨Aw, cw, rfl⟩ := Kd.R_slice HO5.out
    have ho5 := HO5.out
    rw [List.length_map] at ho5 ⊢
    replace HO5 := Aside0.mk ho5
    clear ho5
    by_cases hi : i < l0.length
    · have d1 : decide ((i : Int) < (l0.length : Int)) = true := decide_eq_true (by omega)
      have hi0 : (0 : Int) ≤ (i : Int) := by omega
      have hi1 : (i : Int) < (l0.length : Int) := by omega
      obtain ⟨ad, Ax, cx, rfl, hx, hle, hcx⟩ := at_L1 HR0.out (i : Int) hi0 hi1
      replace hx := cell_kept hx (Kept.of_below B5.out (fun _ => False)) id
      have hre := rdL1 hi
      obtain ⟨x, hxe⟩ : ∃ x, x = rd_L1 l0 (i : Int) := ⟨_, rfl⟩
      rw [← hxe] at hx hle hcx hre
      rw [Int.toNat_natCast] at hx
      have hxm : x ∈ l0 := by rw [hre]; exact List.getElem_mem hi
      have HXB := Aside0.mk (BB.out x hxm); have HLE := Aside0.mk hle; have HCX := Aside0.mk hcx; have HII := Aside0.mk hi
      have HXL := Aside0.mk (show x.length ≤ 140737488351232 by have := (g0.2 x hxm).1; omega)
      have b2 : wrap64 ((i : Int) + 1) = ((i + 1 : Nat) : Int) := by have := HL0.out; unfold wrap64; omega
      have q1 := eq_true hi0
      have q2 := eq_true hi1
      have q3 : decide ((0 : Int) ≤ (i : Int)) = true := decide_eq_true hi0
      have NK := Aside0.mk (show (i + 1 ≤ l0.length ∧ i + 1 + (gk - 1) = l0.length + 1) ∧ 0 < gk by have := HI.out; omega)
      have HDL := Aside0.mk (show ds.length ≤ 20 by have := HI.out.2.2.2.1; have := HL0.out; omega)
      clear hxe hre hxm hle hcx hi
      by_cases hlong : 16384 < x.length
      · have t1 : decide ((x.length : Int) > 16384) = true := decide_eq_true (by omega)
        have t2 : decide (16384 < (x.length : Int)) = true := decide_eq_true (by omega)
        have hput : DS.put ⟨room, Frame.all ds, Frame.all ds, false, false, -1⟩ x (ds.length : Int) = (⟨room, Frame.all ds, Frame.all ds, false, false, -1⟩, 2, (ds.length : Int)) := by unfold DS.put; rw [if_pos hlong]
        have hadd : DS.add ⟨room, Frame.all ds, Frame.all ds, false, false, -1⟩ x (ds.length : Int) = (⟨room, Frame.all ds, Frame.all ds, false, false, -1⟩, 2, (ds.length : Int)) := by unfold DS.add; rw [hput]; rfl
        have HPUT := Aside0.mk hput; have HADD := Aside0.mk hadd
        clear hlong hput hadd
        go_wp2_with fail
        refine (lt_Add (x := x) W5.out (OK.out _ _ _ _ HI.out.2.2.1 HI.out.2.2.1) (by rw [HPUT.out]; exact OK.out _ _ _ _ HI.out.2.2.1 HI.out.2.2.1) (Kd.C_below HCX.out B5.out) HLE.out HXB.out (by have := HDL.out; omega)).mono ?_; rintro y w6 ⟨rfl, hW, hK, hB0⟩
        rw [HADD.out] at hW ⊢
        dsimp only at hW ⊢
        have W6 := Aside0.mk hW; have O6 := Aside0.mk (Kd.R_kept (Kd.R_bound HO5.out) hK (fun k hk => hk.1)); have B6 := Aside0.mk (below_kept B5.out hB0 hK HT.out); clear hW hK hB0
        go_wp2_with fail
        refine (l_Len (N := 0) ⟨W6.out.1.mono (fun k hk => ⟨Nat.zero_le _, hk.2⟩), W6.out.2.1, Nat.zero_le _⟩).mono ?_; rintro y w7 ⟨rfl, hW, hB⟩; have W7 := Aside0.mk (W6.out.below hB); have O7 := Aside0.mk (Kd.R_below O6.out hB); have B7 := Aside0.mk (below_step B6.out hB); clear hW hB
        go_wp2_with fail
        go_roundg (gk - 1)
        case measure => have := NK.out.2; omega
        case rel => exact ⟨i + 1, (fun k => T k ∨ wr.heap.size ≤ k), ds, rfl, (by first | rw [b2] | exact congrArg _ (by omega)), ⟨NK.out.1.1, NK.out.1.2, HI.out.2.2.1, by have := HI.out.2.2.2.1; omega, HI.out.2.2.2.2⟩, W7, ⟨fun k hk => hk.elim (HT.out k) (fun q => Nat.le_trans B5.out.size q)⟩, ⟨Kd.R_mono O7.out (fun k hk q => q.elim (fun h => hk.1 h) (fun h => absurd hk.2.2.1 (Nat.not_lt.mpr h)))⟩, B7⟩
      have t1 : decide ((x.length : Int) > 16384) = false := decide_eq_false (by omega)
      have t2 : decide (16384 < (x.length : Int)) = false := decide_eq_false (by omega)
      have r1 : wrap64 ((x.length : Int) + 8) = (x.length : Int) + 8 := by unfold wrap64; omega
      have r2 : wrap64 (room - ((Frame.all ds).length : Int)) = room - ((Frame.all ds).length : Int) := by have := HRM.out; have := HI.out.2.2.1; unfold wrap64; omega
      have HXS := Aside0.mk (show x.length ≤ 16384 by omega)
      by_cases hfull : (x.length : Int) + 8 > room - ((Frame.all ds).length : Int)
      · have t3 : decide ((x.length : Int) + 8 > room - ((Frame.all ds).length : Int)) = true := decide_eq_true hfull
        have t4 : decide (room - ((Frame.all ds).length : Int) < (x.length : Int) + 8) = true := decide_eq_true hfull
        have hput : DS.put ⟨room, Frame.all ds, Frame.all ds, false, false, -1⟩ x (ds.length : Int) = (⟨room, Frame.all ds, Frame.all ds, false, false, -1⟩, 3, (ds.length : Int)) := by
          have hw : DS.write ⟨room, Frame.all ds, Frame.all ds, false, false, -1⟩ (Frame.rec_ x) = (⟨room, Frame.all ds, Frame.all ds, false, false, -1⟩, 3) := by
            unfold DS.write
            rw [if_neg (by simp), if_pos (by rw [Frame.rec_length]; simp only; omega)]
          unfold DS.put
          rw [if_neg (by omega), hw]
          simp
        have hadd : DS.add ⟨room, Frame.all ds, Frame.all ds, false, false, -1⟩ x (ds.length : Int) = (⟨room, Frame.all ds, Frame.all ds, false, false, -1⟩, 3, (ds.length : Int)) := by unfold DS.add; rw [hput]; rfl
        have HPUT := Aside0.mk hput; have HADD := Aside0.mk hadd
        clear hlong hput hadd hfull
        go_wp2_with fail
        refine (lt_Add (x := x) W5.out (OK.out _ _ _ _ HI.out.2.2.1 HI.out.2.2.1) (by rw [HPUT.out]; exact OK.out _ _ _ _ HI.out.2.2.1 HI.out.2.2.1) (Kd.C_below HCX.out B5.out) HLE.out HXB.out (by have := HDL.out; omega)).mono ?_; rintro y w6 ⟨rfl, hW, hK, hB0⟩
        rw [HADD.out] at hW ⊢
        dsimp only at hW ⊢
        have W6 := Aside0.mk hW; have O6 := Aside0.mk (Kd.R_kept (Kd.R_bound HO5.out) hK (fun k hk => hk.1)); have B6 := Aside0.mk (below_kept B5.out hB0 hK HT.out); clear hW hK hB0
        go_wp2_with fail
        refine (l_Len (N := 0) ⟨W6.out.1.mono (fun k hk => ⟨Nat.zero_le _, hk.2⟩), W6.out.2.1, Nat.zero_le _⟩).mono ?_; rintro y w7 ⟨rfl, hW, hB⟩; have W7 := Aside0.mk (W6.out.below hB); have O7 := Aside0.mk (Kd.R_below O6.out hB); have B7 := Aside0.mk (below_step B6.out hB); clear hW hB
        go_wp2_with fail
        go_roundg (gk - 1)
        case measure => have := NK.out.2; omega
        case rel => exact ⟨i + 1, (fun k => T k ∨ wr.heap.size ≤ k), ds, rfl, (by first | rw [b2] | exact congrArg _ (by omega)), ⟨NK.out.1.1, NK.out.1.2, HI.out.2.2.1, by have := HI.out.2.2.2.1; omega, HI.out.2.2.2.2⟩, W7, ⟨fun k hk => hk.elim (HT.out k) (fun q => Nat.le_trans B5.out.size q)⟩, ⟨Kd.R_mono O7.out (fun k hk q => q.elim (fun h => hk.1 h) (fun h => absurd hk.2.2.1 (Nat.not_lt.mpr h)))⟩, B7⟩
      · have t3 : decide ((x.length : Int) + 8 > room - ((Frame.all ds).length : Int)) = false := decide_eq_false hfull
        have t4 : decide (room - ((Frame.all ds).length : Int) < (x.length : Int) + 8) = false := decide_eq_false hfull
        have hall : Frame.all (ds ++ [x]) = Frame.all ds ++ Frame.rec_ x := by rw [Frame.all_append]; simp [Frame.all]
        have hlen : (Frame.all (ds ++ [x])).length = (Frame.all ds).length + (8 + x.length) := by rw [hall, List.length_append, Frame.rec_length]
        have hput : DS.put ⟨room, Frame.all ds, Frame.all ds, false, false, -1⟩ x (ds.length : Int) = (⟨room, Frame.all ds, Frame.all (ds ++ [x]), false, false, -1⟩, 0, ((ds ++ [x]).length : Int)) := by
          rw [put_free rfl (by simp only; omega) (by omega) (by simp only; omega), hall]; simp
        have hadd : DS.add ⟨room, Frame.all ds, Frame.all ds, false, false, -1⟩ x (ds.length : Int) = (⟨room, Frame.all (ds ++ [x]), Frame.all (ds ++ [x]), false, false, -1⟩, 0, ((ds ++ [x]).length : Int)) := by unfold DS.add; rw [hput]; rfl
        have r4 : wrap64 (((Frame.all ds).length : Int) + ((x.length : Int) + 8)) = ((Frame.all (ds ++ [x])).length : Int) := by rw [hlen]; have := HRM.out; unfold wrap64; omega
        have HRN := Aside0.mk (show ((Frame.all (ds ++ [x])).length : Int) ≤ room by omega)
        have HPUT := Aside0.mk hput; have HADD := Aside0.mk hadd
        obtain ⟨es, hes⟩ : ∃ es, es = ds ++ [x] := ⟨_, rfl⟩
        rw [← hes] at r4 HRN HPUT HADD
        have HES := Aside0.mk hes
        clear hlong hput hadd hfull hall hlen hes
        go_wp2_with fail
        refine (lt_Add (x := x) W5.out (OK.out _ _ _ _ HI.out.2.2.1 HI.out.2.2.1) (by rw [HPUT.out]; exact OK.out _ _ _ _ HI.out.2.2.1 HRN.out) (Kd.C_below HCX.out B5.out) HLE.out HXB.out (by have := HDL.out; omega)).mono ?_; rintro y w6 ⟨rfl, hW, hK, hB0⟩
        rw [HADD.out] at hW ⊢
        dsimp only at hW ⊢
        have W6 := Aside0.mk hW; have O6 := Aside0.mk (Kd.R_kept (Kd.R_bound HO5.out) hK (fun k hk => hk.1)); have B6 := Aside0.mk (below_kept B5.out hB0 hK HT.out); clear hW hK hB0
        have HT6 := Aside0.mk (show ∀ k, (T k ∨ wr.heap.size ≤ k) → w.heap.size ≤ k from fun k hk => hk.elim (HT.out k) (fun q => Nat.le_trans B5.out.size q))
        have hcv := Kd.C_string (P := Try.prog) (c := cx) Try.underlying22 Try.underlying5 Try.underlying9 (Kd.C_below HCX.out B6.out)
        have OLt := Aside0.mk (show ∀ k, (Value.slice Aw ds.length cw).ownBlock = some k → ¬ ((T k ∨ wr.heap.size ≤ k) ∧ k < w6.heap.size) from fun k e q => (fun (hk : ¬ T k ∧ w.heap.size ≤ k ∧ k < wr.heap.size ∧ ∃ q, q ∈ 9 :: Kd.string.E ∧ ∃ cells, wr.heap[k]? = some (.cells cells q (0, 0))) => q.1.elim (fun h => hk.1 h) (fun h => absurd hk.2.2.1 (Nat.not_lt.mpr h))) (O6.out.1 k e))
        go_wp2_with (first | ((with_reducible refine gate_dst (N := 63) rfl ?_); refine Kd.R_lit Kd.string _ 9 ?hg (N := 63) ?hd (xs := [strOfNums x]) (inner := [.string (strOfNums x)]) (ok := fun _ => True) (okp := fun _ => True) ?hr ?hp (fun _ hk => hk) trivial (Below.refl _ _) (Nat.le_refl _) (by simp) ?_; (case hd => rfl); (case hg => rfl); (case hr => first | (go_simp; done) | (go_simp; rfl)); (case hp => exact (Reps.one (show Kd.M Kd.string _ _ _ (strOfNums x) [.string (strOfNums x)] from rfl) (Reps.none _ _))); intro vL wL hoL hbL hg_ hnew_; clear hg_ hnew_; obtain ⟨AL, cL, eL, hcL, hrL⟩ := Kd.R_reads hoL; subst eL; have RL := Aside0.mk hrL; have BL := Aside0.mk (below_step B6.out hbL); have OL := Aside0.mk (Kd.R_below O6.out hbL); have WL := Aside0.mk (W6.out.bound.below hbL); have SL := Aside0.mk hbL.size; clear hbL hoL hcL hrL) | ((with_reducible refine gate_builtin (b := .append) (xs := #[.tmp 60, .tmp 63]) rfl ?_); at_builtin; refine Kd.R_append_rows Kd.string (w0 := w) w.heap.size rfl (.tmp 60) (.tmp 63) 50 9 (.string ⟨#[]⟩) 16 rfl Try.underlying50 info9 rfl (by decide) (by omega) (.slice Aw ds.length cw) (ds.map strOfNums) [strOfNums x] _ _ _ (fun k => ¬ ((T k ∨ wr.heap.size ≤ k) ∧ k < w6.heap.size)) (fun _ => False) rfl rfl ?aO ?aR (fun _ _ h => h) (fun _ h => h.elim) ?aF ?aB ?aS ?aL ?_; (case aR => exact RL.out); (case aB => exact BL.out); (case aF => exact (fun k hk q => absurd q.2 (Nat.not_lt.mpr (Nat.le_trans SL.out hk)))); (case aO => exact Kd.R_mono OL.out (fun k hk q => q.1.elim (fun h => hk.1 h) (fun h => absurd hk.2.2.1 (Nat.not_lt.mpr h)))); (case aS => exact BL.out.size); (case aL => (have := HDL.out; simp only [List.length_map, List.length_singleton]; omega)); intro v9 w9 ho hb hg hat; have B9 := Aside0.mk hb; obtain ⟨Av, cv, ev_⟩ := Kd.R_slice ho; subst ev_; have O9 := Aside0.mk ho; have W9 := Aside0.mk (WL.out.kept (Kept.of_grown hg (Kept.refl wL (fun k => some k = (Value.slice Aw ds.length cw).ownBlock)) (fun k hk => .inl hk.symm)) (fun k hk e => OLt.out k e.symm hk)); clear ho hb hg hat))
        refine (l_Len (N := 0) ⟨W9.out.1.mono (fun k hk => ⟨Nat.zero_le _, hk.2⟩), W9.out.2.1, Nat.zero_le _⟩).mono ?_; rintro y w10 ⟨rfl, hW, hB⟩; rw [HES.out, List.length_append]; have W10 := Aside0.mk (W9.out.below hB); have O10 := Aside0.mk (Kd.R_below O9.out hB); have B10 := Aside0.mk (below_step B9.out hB); clear hW hB
        go_wp2_with fail
        go_roundg (gk - 1)
        case measure => have := NK.out.2; omega
        case rel => exact ⟨i + 1, (fun k => (T k ∨ wr.heap.size ≤ k) ∧ k < w6.heap.size), ds ++ [x], rfl, (by first | rw [b2] | exact congrArg _ (by omega)), ⟨NK.out.1.1, NK.out.1.2, by rw [← HES.out]; exact HRN.out, by have := HI.out.2.2.2.1; simp only [List.length_append, List.length_singleton]; omega, fun d hd => (List.mem_append.mp hd).elim (HI.out.2.2.2.2 d) (fun h => by rw [List.mem_singleton.mp h]; exact ⟨HXB.out, HXS.out⟩)⟩, by have h := W10.out; rw [HES.out] at h; exact ⟨h⟩, ⟨fun k hk => HT6.out k hk.1⟩, by have h := O10.out; rw [← List.map_singleton, ← List.map_append] at h; (have e : (List.map strOfNums (ds ++ [x])).length = ds.length + 1 := by simp); rw [e] at h; exact ⟨h⟩, B10⟩
    · have d1 : decide ((i : Int) < (l0.length : Int)) = false := decide_eq_false (by omega)
      have hie : i = l0.length := by have := HI.out; omega
      subst hie
      have hsc := Frame.scan_all ds (Frame.all ds).length [] (by
        have : ∀ (ds : List (List Int)), ds.length ≤ (Frame.all ds).length := by
          intro ds
          induction ds with
          | nil => simp
          | cons d ds ih => rw [Frame.all_cons, List.length_append, Frame.rec_length, List.length_cons]; omega
        exact this ds) HI.out.2.2.2.2 (.inl rfl)
      rw [List.append_nil] at hsc
      have HSC := Aside0.mk hsc
      have HAB := Aside0.mk (Frame.all_bytes (fun d hd => (HI.out.2.2.2.2 d hd).1))
      obtain ⟨ks, hks⟩ := (same_ev ds (by have := HL0.out; have := HI.out.2.2.2.1; omega)).rounds
      have HKS := Aside0.mk hks
      have O5b := Aside0.mk (Kd.R_bound HO5.out)
      clear hsc hks hi
      go_wp2_with fail
      refine (lt_Open (W5.out.1.mono (P' := fun k => T k ∨ wr.heap.size ≤ k) (fun k hk => .inl hk.1)) (OK.out _ _ _ _ HI.out.2.2.1 HI.out.2.2.1) rfl (by simp only; omega) HAB.out).mono ?_; rintro y w9 ⟨gl2, v9, rfl, hW, hS, hK, hB0⟩
      dsimp only at hW hS
      rw [HSC.out] at hW hS
      obtain ⟨A9, c9, rfl, hc9, hC9⟩ := Kd.S_reads hS
      have B9 := Aside0.mk (below_kept B5.out hB0 hK (fun k hk => hk.elim (HT.out k) (fun q => Nat.le_trans B5.out.size q)))
      have O9 := Aside0.mk (Kd.R_kept O5b.out hK (fun k hk q => q.elim (fun h => hk.1 h) (fun h => absurd hk.2.2.1 (Nat.not_lt.mpr h))))
      obtain ⟨Aw2, cw2, e2, hcw, hCw⟩ := Kd.R_reads O9.out
      injection e2 with p1 p2 p3
      subst p1 p3; clear p2
      have hsame := contralaw07_same.calls ks A9 c9 ds Aw cw (ds.map strOfNums) true w9 hC9 hc9 hCw hcw HKS.out
      rw [List.length_map] at hsame
      have HSAME := Aside0.mk hsame
      clear hW hS hK hB0 hc9 hC9 hcw hCw hsame
      go_wp2_with fail
      refine HSAME.out.mono ?_; rintro y w10 ⟨rfl, hDr⟩
      have B10 := Aside0.mk (below_step B9.out hDr.below)
      clear hDr
      go_wp2_with fail
      go_ret
      exact ⟨rfl, B10.out⟩
end Go.Proofs.Ythpdmjpimeibnaa.Pure
