/-
  WalRows, walked by hand: records that are put, and synced at last, are all there, in order.
-/
import Derived.Test.YthpdmjpimeibnaaOOpen2
import Derived.Test.YthpdmjpimeibnaaHLogs
import Derived.Test.YthpdmjpimeibnaaPWal
import Derived.Test.YthpdmjpimeibnaaRowWalRows
namespace Go.Proofs.Ythpdmjpimeibnaa.Pure
open Go.RowKit Go.Proofs.Ythpdmjpimeibnaa.M Go.Proofs.YthpdmjpimeibnaaW.PrintWords Go.Proofs.YthpdmjpimeibnaaW.PrintLast Go.Proofs.YthpdmjpimeibnaaW.PrintMore
set_option linter.unusedVariables false
set_option linter.unusedSimpArgs false
theorem crash_whole0 {d : DS} {keep turn : Int} (hr : d.renew = false) (hs : d.sure = d.all) : d.crash keep turn = { d with down := true, fuse := -1 } := by
  have ht : d.torn keep = d.all.length := by unfold DS.torn; rw [hs]; omega
  unfold DS.crash
  rw [if_neg (by simp [hr]), ht, if_neg (by rw [hs]; omega), List.take_length]
theorem at_boolN {w : World} {ad : Addr} {n : Nat} {xs : List Bool} (h : Kd.bool.C w (some ad) n xs) (i : Nat) (h1 : i < n) : w.cell? (ad.add i) = some (.bool (rdOf false xs (i : Int))) := by
  obtain ⟨ad2, e, hx⟩ := Kd.at_bool h (i : Int) (by omega) (by omega)
  obtain rfl : ad = ad2 := by injection e
  rwa [Int.toNat_natCast] at hx
theorem at_some {α : Type} {d : Kd α} {w : World} {A : Option Addr} {n : Nat} {xs : List α} (h : d.C w A n xs) (h0 : 0 < n) : ∃ ad, A = some ad := by
  obtain ⟨h1, _, h3⟩ := h
  obtain ⟨ad, e, _⟩ := h3 (by omega)
  exact ⟨ad, e⟩
theorem all_len : ∀ (ds : List (List Int)), (∀ d ∈ ds, d.length ≤ 1000) → (Frame.all ds).length ≤ 1008 * ds.length := by
  intro ds
  induction ds with
  | nil => intro _; simp [Frame.all]
  | cons d ds ih =>
    intro h
    have h1 := ih (fun x hx => h x (by simp [hx]))
    have h2 := h d (by simp)
    rw [Frame.all_cons, List.length_append, Frame.rec_length, List.length_cons]
    omega
set_option maxHeartbeats 4000000 in
set_option maxRecDepth 100000 in
theorem WalRows_hand (A0 : Option Addr) (c0 : Nat) (l0 : List (List Int)) (A1 : Option Addr) (c1 : Nat) (l1 : List Bool) (w : World)
    (hr0 : Kd.C (Kd.slice 5 (Kd.int .u8)) w A0 l0.length l0) (hc0 : l0.length ≤ c0) (hr1 : Kd.C Kd.bool w A1 l1.length l1) (hc1 : l1.length ≤ c1)
    (g0 : l0.length * 24 ≤ 140737488351232 ∧ ∀ x ∈ l0, (x.length * 1 ≤ 140737488351232 ∧ ∀ y0_ ∈ x, (Lit.int .u8 y0_).wf = true)) (g1 : l1.length * 1 ≤ 140737488351232 ∧ ∀ x ∈ l1, True) :
    Calls Try.prog 8 #[.slice A0 l0.length c0, .slice A1 l1.length c1] w fun e w' => e = .returned (.bool true) ∧ Below w.heap.size w w' := by
  have hB : ∀ x ∈ l0, Frame.Bytes x := fun x hx => wf_u8 (g0.2 x hx)
  have HB := Aside0.mk (Below.refl w.heap.size w)
  have HR0 := Aside0.mk hr0; have HC0 := Aside0.mk hc0; have HR1 := Aside0.mk hr1; have HC1 := Aside0.mk hc1; clear hr0 hc0 hr1 hc1
  by_cases h0_ : l0.length > 20
  · have c0_ : decide (20 < (l0.length : Int)) = true := decide_eq_true (by omega)
    have c1_ : decide ((l0.length : Int) > 20) = true := decide_eq_true (by omega)
    clear g0 g1 hB
    go_enter Try.func8, Try.ntmps8
    go_wp2_with (first | (go_at_call 25; refine (logs_calls _).mono ?_; rintro e w1 ⟨rfl, hb⟩; have B1 := Aside0.mk (below_step HB.out hb); clear hb))
    go_ret
    exact ⟨rfl, B1.out⟩
  have c0a_ : decide (20 < (l0.length : Int)) = false := decide_eq_false (by omega)
  have c0b_ : decide ((l0.length : Int) > 20) = false := decide_eq_false (by omega)
  have HL0 := Aside0.mk (show l0.length ≤ 20 by omega)
  have BB := Aside0.mk hB
  have OK := Aside0.mk (show ∀ s a r dn, s.length ≤ 1048576 → a.length ≤ 1048576 → DS.Ok ⟨1048576, s, a, r, dn, -1⟩ from fun s a r dn h1 h2 => ⟨by simp only; omega, by simp only; omega, by simp only; omega, by simp only; omega, by simp only; omega, by simp only; omega⟩)
  have E1 := Aside0.mk (show DS.opened ⟨1048576, [], [], false, false, -1⟩ = ⟨1048576, [], [], false, false, -1⟩ from rfl)
  clear h0_ g0 g1 hB
  go_enter Try.func8, Try.ntmps8
  go_wp2_with fail
  refine (logs_calls _).mono ?_; rintro e w1 ⟨rfl, hb⟩; have B1 := Aside0.mk (below_step HB.out hb); clear hb HB
  go_wp2_with fail
  refine (disk_New w1 (by decide) (by decide)).mono ?_; rintro x w2 ⟨g, rfl, hg, hD, hB⟩; have D2 := Aside0.mk (hD.mono (P' := fun k => w.heap.size ≤ k) (fun k hk => Nat.le_trans B1.out.size hk)); have B2 := Aside0.mk (below_step B1.out hB); clear hg hD hB
  go_wp2_with fail
  refine (l_Open D2.out (OK.out _ _ _ _ (by decide) (by decide)) B2.out.size rfl (by simp only; omega) (fun x hx => by simp at hx)).mono ?_; rintro x w3 ⟨gl, v3, rfl, hW, hS, hB⟩; rw [E1.out] at hW; have W3 := Aside0.mk (IsT.of (show IsW w.heap.size w3 g gl ⟨1048576, [], [], false, false, -1⟩ 0 from hW)); have B3 := Aside0.mk (B2.out.trans hB); clear hW hS hB
  go_wp2_with fail
  go_loopg [10, 33] (l0.length + 1) (fun kq v10 v33 w' => ∃ (i : Nat) (T : Nat → Prop) (s : List Int), v33 = .int .i64 (i : Int) ∧ Aside0 (i ≤ l0.length ∧ i + kq = l0.length + 1 ∧ s.length ≤ 1048576 ∧ (∀ x ∈ l0.take i, x.length ≤ 1000)) ∧ Aside0 (IsT T w' g gl ⟨1048576, s, Frame.all (l0.take i), false, false, -1⟩ (i : Int)) ∧ Aside0 (∀ k, T k → w.heap.size ≤ k) ∧
    Aside0 (Kd.R Kd.string 9 w' w.heap.size (fun k => ¬ T k) v10 ((l0.take i).map strOfNums)) ∧ Aside0 (Below w.heap.size w w'))
  case atStart => exact ⟨0, _, [], rfl, ⟨by omega, by omega, by simp, by simp⟩, W3, ⟨fun k hk => hk⟩, ⟨Kd.R_nil _ _ _ _ _⟩, B3⟩
  case round =>
    obtain ⟨i, T, s, rfl, HI, W5, HT, HO5, B5⟩ := hrel
    by_cases hi : i < l0.length
    · have d1 : decide ((i : Int) < (l0.length : Int)) = true := decide_eq_true (by omega)
      have hi0 : (0 : Int) ≤ (i : Int) := by omega
      have hi1 : (i : Int) < (l0.length : Int) := by omega
      obtain ⟨ad, Ax, cx, rfl, hx, hle, hcx⟩ := at_L1 HR0.out (i : Int) hi0 hi1
      replace hx := cell_kept hx (Kept.of_below B5.out (fun _ => False)) id
      have hre := rdL1 hi
      obtain ⟨x, hxe⟩ : ∃ x, x = rd_L1 l0 (i : Int) := ⟨_, rfl⟩
      rw [← hxe] at hx hle hcx hre
      rw [Int.toNat_natCast] at hx
      have hxm : x ∈ l0 := by rw [hre]; exact List.getElem_mem hi
      have htk : l0.take (i + 1) = l0.take i ++ [x] := by rw [List.take_succ_eq_append_getElem hi, ← hre]
      have HXB := Aside0.mk (BB.out x hxm); have HLE := Aside0.mk hle; have HCX := Aside0.mk hcx; have HTK := Aside0.mk htk; have HII := Aside0.mk hi
      have b2 : wrap64 ((i : Int) + 1) = ((i + 1 : Nat) : Int) := by have := HL0.out; unfold wrap64; omega
      have q1 := eq_true hi0
      have q2 := eq_true hi1
      have q3 : decide ((0 : Int) ≤ (i : Int)) = true := decide_eq_true hi0
      have NK := Aside0.mk (show (i + 1 ≤ l0.length ∧ i + 1 + (gk - 1) = l0.length + 1) ∧ 0 < gk by have := HI.out; omega)
      clear hxe hre hxm htk hle hcx hi
      by_cases hlong : x.length > 1000
      · have t1 : decide ((x.length : Int) > 1000) = true := decide_eq_true (by omega)
        have t2 : decide (1000 < (x.length : Int)) = true := decide_eq_true (by omega)
        clear hlong
        go_wp2_with fail
        go_ret
        exact ⟨rfl, B5.out⟩
      have t1 : decide ((x.length : Int) > 1000) = false := decide_eq_false (by omega)
      have t2 : decide (1000 < (x.length : Int)) = false := decide_eq_false (by omega)
      have HXL := Aside0.mk (show x.length ≤ 1000 by omega)
      have hal := all_len (l0.take i) HI.out.2.2.2
      rw [List.length_take] at hal
      have HAL := Aside0.mk (show (Frame.all (l0.take i)).length ≤ 20160 by have := HL0.out; omega)
      have hput : DS.put ⟨1048576, s, Frame.all (l0.take i), false, false, -1⟩ x (i : Int) = (⟨1048576, s, Frame.all (l0.take (i + 1)), false, false, -1⟩, 0, ((i + 1 : Nat) : Int)) := by
        rw [put_free rfl (by simp only; omega) (by omega) (by simp only; have := HAL.out; omega), HTK.out, Frame.all_append]
        simp [Frame.all]
      have HPUT := Aside0.mk hput
      clear hlong hal hput
      go_wp2_with fail
      refine (lt_Put (x := x) W5.out (OK.out _ _ _ _ HI.out.2.2.1 (by have := HAL.out; omega)) (Kd.C_below HCX.out B5.out) HLE.out HXB.out (by have := HL0.out; have := HII.out; omega)).mono ?_; rintro y w6 ⟨rfl, hW, hK, hB0⟩
      rw [HPUT.out] at hW ⊢
      dsimp only at hW ⊢
      have W6 := Aside0.mk hW; have O6 := Aside0.mk (Kd.R_kept (Kd.R_bound HO5.out) hK (fun k hk => hk.1)); have B6 := Aside0.mk (below_kept B5.out hB0 hK HT.out); have S6 := Aside0.mk hB0.size; clear hW hK hB0
      have HT6 := Aside0.mk (show ∀ k, (T k ∨ wr.heap.size ≤ k) → w.heap.size ≤ k from fun k hk => hk.elim (HT.out k) (fun q => Nat.le_trans B5.out.size q))
      have HAL2 := Aside0.mk (show (Frame.all (l0.take (i + 1))).length ≤ 1048576 by rw [HTK.out, Frame.all_append, List.length_append]; have := HAL.out; have := HXL.out; have e : (Frame.all [x]).length = 8 + x.length := (by simp [Frame.all, Frame.rec_length]); omega)
      have HI2 := Aside0.mk (show ∀ y ∈ l0.take (i + 1), y.length ≤ 1000 by rw [HTK.out]; intro y hy; rcases List.mem_append.mp hy with q | q; exact HI.out.2.2.2 y q; rw [List.mem_singleton.mp q]; exact HXL.out)
      by_cases hy : i < l1.length
      · have d2 : decide ((i : Int) < (l1.length : Int)) = true := decide_eq_true (by omega)
        have d3 := eq_true (show (i : Int) < (l1.length : Int) by omega)
        obtain ⟨ad1, rfl⟩ := at_some HR1.out (by omega)
        have hz := at_boolN (Kd.C_below HR1.out B6.out) i hy
        obtain ⟨bz, hbz⟩ : ∃ b, b = rdOf false l1 (i : Int) := ⟨_, rfl⟩
        rw [← hbz] at hz
        clear hbz hy
        cases bz
        · skip
          have OLt := Aside0.mk (show ∀ k, u10.ownBlock = some k → ¬ ((T k ∨ wr.heap.size ≤ k) ∧ k < w6.heap.size) from fun k e q => (fun (hk : ¬ T k ∧ w.heap.size ≤ k ∧ k < wr.heap.size ∧ ∃ q, q ∈ 9 :: Kd.string.E ∧ ∃ cells, wr.heap[k]? = some (.cells cells q (0, 0))) => q.1.elim (fun h => hk.1 h) (fun h => absurd hk.2.2.1 (Nat.not_lt.mpr h))) (O6.out.1 k e))
          have hcv := Kd.C_string (P := Try.prog) (c := cx) Try.underlying22 Try.underlying5 Try.underlying9 (Kd.C_below HCX.out B6.out)
          go_wp2_with (first | ((with_reducible refine gate_dst (N := 63) rfl ?_); refine Kd.R_lit Kd.string _ 9 ?hg (N := 63) ?hd (xs := [strOfNums x]) (inner := [.string (strOfNums x)]) (ok := fun _ => True) (okp := fun _ => True) ?hr ?hp (fun _ hk => hk) trivial (Below.refl _ _) (Nat.le_refl _) (by simp) ?_; (case hd => rfl); (case hg => rfl); (case hr => first | (go_simp; done) | (go_simp; rfl)); (case hp => exact (Reps.one (show Kd.M Kd.string _ _ _ (strOfNums x) [.string (strOfNums x)] from rfl) (Reps.none _ _))); intro vL wL hoL hbL hg_ hnew_; clear hg_ hnew_; obtain ⟨AL, cL, eL, hcL, hrL⟩ := Kd.R_reads hoL; subst eL; have RL := Aside0.mk hrL; have BL := Aside0.mk (below_step B6.out hbL); have OL := Aside0.mk (Kd.R_below O6.out hbL); have WL := Aside0.mk (W6.out.bound.below hbL); have SL := Aside0.mk hbL.size; clear hbL hoL hcL hrL) | ((with_reducible refine gate_builtin (b := .append) (xs := #[.tmp 60, .tmp 63]) rfl ?_); at_builtin; refine Kd.R_append_rows Kd.string (w0 := w) w.heap.size rfl (.tmp 60) (.tmp 63) 50 9 (.string ⟨#[]⟩) 16 rfl Try.underlying50 info9 rfl (by decide) (by omega) u10 ((l0.take i).map strOfNums) [strOfNums x] _ _ _ (fun k => ¬ ((T k ∨ wr.heap.size ≤ k) ∧ k < w6.heap.size)) (fun _ => False) rfl rfl ?aO ?aR (fun _ _ h => h) (fun _ h => h.elim) ?aF ?aB ?aS ?aL ?_; (case aR => exact RL.out); (case aB => exact BL.out); (case aF => exact (fun k hk q => absurd q.2 (Nat.not_lt.mpr (Nat.le_trans SL.out hk)))); (case aO => exact Kd.R_mono OL.out (fun k hk q => q.1.elim (fun h => hk.1 h) (fun h => absurd hk.2.2.1 (Nat.not_lt.mpr h)))); (case aS => exact BL.out.size); (case aL => (have := HL0.out; simp only [List.length_map, List.length_take, List.length_singleton]; omega)); intro v9 w9 ho hb hg hat; have B9 := Aside0.mk hb; have O9 := Aside0.mk ho; have W9 := Aside0.mk (WL.out.kept (Kept.of_grown hg (Kept.refl wL (fun k => some k = u10.ownBlock)) (fun k hk => .inl hk.symm)) (fun k hk e => OLt.out k e.symm hk)); clear ho hb hg hat))
          go_roundg (gk - 1)
          case measure => have := NK.out.2; omega
          case rel => exact ⟨i + 1, _, s, by rw [b2], ⟨NK.out.1.1, NK.out.1.2, HI.out.2.2.1, HI2.out⟩, W9, ⟨fun k hk => HT6.out k hk.1⟩, ⟨by rw [HTK.out, List.map_append]; exact O9.out⟩, B9⟩
        · go_wp2_with fail
          refine (lt_Sync W6.out (OK.out _ _ _ _ HI.out.2.2.1 HAL2.out)).mono ?_; rintro y w7 ⟨rfl, hW, hK, hB0⟩; have W7 := Aside0.mk (show IsT (fun k => ((T k ∨ wr.heap.size ≤ k) ∨ w6.heap.size ≤ k)) w7 g gl ⟨1048576, Frame.all (l0.take (i + 1)), Frame.all (l0.take (i + 1)), false, false, -1⟩ ((i + 1 : Nat) : Int) from hW); have O7 := Aside0.mk (Kd.R_kept O6.out hK (fun k hk q => q.elim (fun h => hk.1 h) (fun h => absurd hk.2.2.1 (Nat.not_lt.mpr h)))); have B7 := Aside0.mk (below_kept B6.out hB0 hK HT6.out); have HT7 := Aside0.mk (show ∀ k, ((T k ∨ wr.heap.size ≤ k) ∨ w6.heap.size ≤ k) → w.heap.size ≤ k from fun k hk => hk.elim (HT6.out k) (fun q => Nat.le_trans B6.out.size q)); clear hW hK hB0
          have OLt := Aside0.mk (show ∀ k, u10.ownBlock = some k → ¬ (((T k ∨ wr.heap.size ≤ k) ∨ w6.heap.size ≤ k) ∧ k < w7.heap.size) from fun k e q => (fun (hk : ¬ T k ∧ w.heap.size ≤ k ∧ k < wr.heap.size ∧ ∃ q, q ∈ 9 :: Kd.string.E ∧ ∃ cells, wr.heap[k]? = some (.cells cells q (0, 0))) => q.1.elim (fun q => q.elim (fun h => hk.1 h) (fun h => absurd hk.2.2.1 (Nat.not_lt.mpr h))) (fun h => absurd (Nat.lt_of_lt_of_le hk.2.2.1 S6.out) (Nat.not_lt.mpr h))) (O7.out.1 k e))
          have hcv := Kd.C_string (P := Try.prog) (c := cx) Try.underlying22 Try.underlying5 Try.underlying9 (Kd.C_below HCX.out B7.out)
          go_wp2_with (first | ((with_reducible refine gate_dst (N := 63) rfl ?_); refine Kd.R_lit Kd.string _ 9 ?hg (N := 63) ?hd (xs := [strOfNums x]) (inner := [.string (strOfNums x)]) (ok := fun _ => True) (okp := fun _ => True) ?hr ?hp (fun _ hk => hk) trivial (Below.refl _ _) (Nat.le_refl _) (by simp) ?_; (case hd => rfl); (case hg => rfl); (case hr => first | (go_simp; done) | (go_simp; rfl)); (case hp => exact (Reps.one (show Kd.M Kd.string _ _ _ (strOfNums x) [.string (strOfNums x)] from rfl) (Reps.none _ _))); intro vL wL hoL hbL hg_ hnew_; clear hg_ hnew_; obtain ⟨AL, cL, eL, hcL, hrL⟩ := Kd.R_reads hoL; subst eL; have RL := Aside0.mk hrL; have BL := Aside0.mk (below_step B7.out hbL); have OL := Aside0.mk (Kd.R_below O7.out hbL); have WL := Aside0.mk (W7.out.bound.below hbL); have SL := Aside0.mk hbL.size; clear hbL hoL hcL hrL) | ((with_reducible refine gate_builtin (b := .append) (xs := #[.tmp 60, .tmp 63]) rfl ?_); at_builtin; refine Kd.R_append_rows Kd.string (w0 := w) w.heap.size rfl (.tmp 60) (.tmp 63) 50 9 (.string ⟨#[]⟩) 16 rfl Try.underlying50 info9 rfl (by decide) (by omega) u10 ((l0.take i).map strOfNums) [strOfNums x] _ _ _ (fun k => ¬ (((T k ∨ wr.heap.size ≤ k) ∨ w6.heap.size ≤ k) ∧ k < w7.heap.size)) (fun _ => False) rfl rfl ?aO ?aR (fun _ _ h => h) (fun _ h => h.elim) ?aF ?aB ?aS ?aL ?_; (case aR => exact RL.out); (case aB => exact BL.out); (case aF => exact (fun k hk q => absurd q.2 (Nat.not_lt.mpr (Nat.le_trans SL.out hk)))); (case aO => exact Kd.R_mono OL.out (fun k hk q => q.1.elim (fun q => q.elim (fun h => hk.1 h) (fun h => absurd hk.2.2.1 (Nat.not_lt.mpr h))) (fun h => absurd (Nat.lt_of_lt_of_le hk.2.2.1 S6.out) (Nat.not_lt.mpr h)))); (case aS => exact BL.out.size); (case aL => (have := HL0.out; simp only [List.length_map, List.length_take, List.length_singleton]; omega)); intro v9 w9 ho hb hg hat; have B9 := Aside0.mk hb; have O9 := Aside0.mk ho; have W9 := Aside0.mk (WL.out.kept (Kept.of_grown hg (Kept.refl wL (fun k => some k = u10.ownBlock)) (fun k hk => .inl hk.symm)) (fun k hk e => OLt.out k e.symm hk)); clear ho hb hg hat))
          go_roundg (gk - 1)
          case measure => have := NK.out.2; omega
          case rel => exact ⟨i + 1, _, (Frame.all (l0.take (i + 1))), by rw [b2], ⟨NK.out.1.1, NK.out.1.2, HAL2.out, HI2.out⟩, W9, ⟨fun k hk => HT7.out k hk.1⟩, ⟨by rw [HTK.out, List.map_append]; exact O9.out⟩, B9⟩
      · have d2 : decide ((i : Int) < (l1.length : Int)) = false := decide_eq_false (by omega)
        have d3 : decide (i < l1.length) = false := decide_eq_false hy
        have d4 := eq_false (show ¬ (i : Int) < (l1.length : Int) by omega)
        clear hy
        have OLt := Aside0.mk (show ∀ k, u10.ownBlock = some k → ¬ ((T k ∨ wr.heap.size ≤ k) ∧ k < w6.heap.size) from fun k e q => (fun (hk : ¬ T k ∧ w.heap.size ≤ k ∧ k < wr.heap.size ∧ ∃ q, q ∈ 9 :: Kd.string.E ∧ ∃ cells, wr.heap[k]? = some (.cells cells q (0, 0))) => q.1.elim (fun h => hk.1 h) (fun h => absurd hk.2.2.1 (Nat.not_lt.mpr h))) (O6.out.1 k e))
        have hcv := Kd.C_string (P := Try.prog) (c := cx) Try.underlying22 Try.underlying5 Try.underlying9 (Kd.C_below HCX.out B6.out)
        go_wp2_with (first | ((with_reducible refine gate_dst (N := 63) rfl ?_); refine Kd.R_lit Kd.string _ 9 ?hg (N := 63) ?hd (xs := [strOfNums x]) (inner := [.string (strOfNums x)]) (ok := fun _ => True) (okp := fun _ => True) ?hr ?hp (fun _ hk => hk) trivial (Below.refl _ _) (Nat.le_refl _) (by simp) ?_; (case hd => rfl); (case hg => rfl); (case hr => first | (go_simp; done) | (go_simp; rfl)); (case hp => exact (Reps.one (show Kd.M Kd.string _ _ _ (strOfNums x) [.string (strOfNums x)] from rfl) (Reps.none _ _))); intro vL wL hoL hbL hg_ hnew_; clear hg_ hnew_; obtain ⟨AL, cL, eL, hcL, hrL⟩ := Kd.R_reads hoL; subst eL; have RL := Aside0.mk hrL; have BL := Aside0.mk (below_step B6.out hbL); have OL := Aside0.mk (Kd.R_below O6.out hbL); have WL := Aside0.mk (W6.out.bound.below hbL); have SL := Aside0.mk hbL.size; clear hbL hoL hcL hrL) | ((with_reducible refine gate_builtin (b := .append) (xs := #[.tmp 60, .tmp 63]) rfl ?_); at_builtin; refine Kd.R_append_rows Kd.string (w0 := w) w.heap.size rfl (.tmp 60) (.tmp 63) 50 9 (.string ⟨#[]⟩) 16 rfl Try.underlying50 info9 rfl (by decide) (by omega) u10 ((l0.take i).map strOfNums) [strOfNums x] _ _ _ (fun k => ¬ ((T k ∨ wr.heap.size ≤ k) ∧ k < w6.heap.size)) (fun _ => False) rfl rfl ?aO ?aR (fun _ _ h => h) (fun _ h => h.elim) ?aF ?aB ?aS ?aL ?_; (case aR => exact RL.out); (case aB => exact BL.out); (case aF => exact (fun k hk q => absurd q.2 (Nat.not_lt.mpr (Nat.le_trans SL.out hk)))); (case aO => exact Kd.R_mono OL.out (fun k hk q => q.1.elim (fun h => hk.1 h) (fun h => absurd hk.2.2.1 (Nat.not_lt.mpr h)))); (case aS => exact BL.out.size); (case aL => (have := HL0.out; simp only [List.length_map, List.length_take, List.length_singleton]; omega)); intro v9 w9 ho hb hg hat; have B9 := Aside0.mk hb; have O9 := Aside0.mk ho; have W9 := Aside0.mk (WL.out.kept (Kept.of_grown hg (Kept.refl wL (fun k => some k = u10.ownBlock)) (fun k hk => .inl hk.symm)) (fun k hk e => OLt.out k e.symm hk)); clear ho hb hg hat))
        go_roundg (gk - 1)
        case measure => have := NK.out.2; omega
        case rel => exact ⟨i + 1, _, s, by rw [b2], ⟨NK.out.1.1, NK.out.1.2, HI.out.2.2.1, HI2.out⟩, W9, ⟨fun k hk => HT6.out k hk.1⟩, ⟨by rw [HTK.out, List.map_append]; exact O9.out⟩, B9⟩
    · have d1 : decide ((i : Int) < (l0.length : Int)) = false := decide_eq_false (by omega)
      obtain rfl : i = l0.length := by have := HI.out; omega
      have w5 := W5.out; have o5 := Kd.R_bound HO5.out
      have hal := all_len (l0.take l0.length) HI.out.2.2.2
      rw [List.take_length] at w5 o5 hal
      have HAL := Aside0.mk (show (Frame.all l0).length ≤ 20160 by have := HL0.out; omega)
      have hlen : ∀ d ∈ l0, Frame.Bytes d ∧ d.length ≤ 16384 := fun d hd => ⟨BB.out d hd, by have := HI.out.2.2.2 d (by rw [List.take_length]; exact hd); omega⟩
      have hsc := Frame.scan_all l0 (Frame.all l0).length [] (by
        have : ∀ (ds : List (List Int)), ds.length ≤ (Frame.all ds).length := by
          intro ds
          induction ds with
          | nil => simp
          | cons d ds ih => rw [Frame.all_cons, List.length_append, Frame.rec_length, List.length_cons]; omega
        exact this l0) hlen (.inl rfl)
      rw [List.append_nil] at hsc
      have HSC := Aside0.mk hsc
      have W5b := Aside0.mk w5; have O5b := Aside0.mk o5
      have HAB := Aside0.mk (Frame.all_bytes (fun d hd => BB.out d hd))
      obtain ⟨ks, hks⟩ := (same_ev l0 (by have := HL0.out; omega)).rounds
      have HKS := Aside0.mk hks
      have hopen : DS.opened ⟨1048576, Frame.all l0, Frame.all l0, false, false, -1⟩ = ⟨1048576, Frame.all l0, Frame.all l0, false, false, -1⟩ := by
        unfold DS.opened
        simp only
        rw [hsc]
        simp
      clear w5 o5 hal hlen hsc hks hi W5 HO5
      go_wp2_with fail
      refine (lt_Sync W5b.out (OK.out _ _ _ _ HI.out.2.2.1 (by have := HAL.out; omega))).mono ?_; rintro y w6 ⟨rfl, hW, hK, hB0⟩
      have D6 := Aside0.mk ((show IsT (fun k => T k ∨ wr.heap.size ≤ k) w6 g gl ⟨1048576, Frame.all l0, Frame.all l0, false, false, -1⟩ (l0.length : Int) from hW).1.mono (P' := fun k => T k ∨ wr.heap.size ≤ k) (fun k hk => hk.1))
      have O6 := Aside0.mk (Kd.R_kept O5b.out hK (fun k hk => hk.1)); have B6 := Aside0.mk (below_kept B5.out hB0 hK HT.out); have S6 := Aside0.mk hB0.size; clear hW hK hB0
      have HT6 := Aside0.mk (show ∀ k, (T k ∨ wr.heap.size ≤ k) → w.heap.size ≤ k from fun k hk => hk.elim (HT.out k) (fun q => Nat.le_trans B5.out.size q))
      have OKA := Aside0.mk (show (Frame.all l0).length ≤ 1048576 by have := HAL.out; omega)
      go_wp2_with fail
      refine (d_Crash D6.out (OK.out _ _ _ _ OKA.out OKA.out) (fun _ => Nat.le_refl _) (by decide)).mono ?_; rintro y w7 ⟨rfl, hD, hK, hB0⟩
      rw [crash_whole0 rfl rfl] at hD
      have D7 := Aside0.mk (hD.mono (P' := fun k => T k ∨ wr.heap.size ≤ k) (fun k hk => hk.elim id (fun q => .inr (Nat.le_trans S6.out q)))); have O7 := Aside0.mk (Kd.R_kept O6.out hK (fun k hk q => q.elim (fun h => hk.1 h) (fun h => absurd hk.2.2.1 (Nat.not_lt.mpr h)))); have B7 := Aside0.mk (below_kept B6.out hB0 hK HT6.out); have S7 := Aside0.mk (Nat.le_trans S6.out hB0.size); clear hD hK hB0
      go_wp2_with fail
      refine (d_Up D7.out (OK.out _ _ _ _ OKA.out OKA.out)).mono ?_; rintro y w8 ⟨rfl, hD, hK, hB0⟩
      have D8 := Aside0.mk ((show IsD _ w8 g ⟨1048576, Frame.all l0, Frame.all l0, false, false, -1⟩ from hD).mono (P' := fun k => T k ∨ wr.heap.size ≤ k) (fun k hk => hk.elim id (fun q => .inr (Nat.le_trans S7.out q)))); have O8 := Aside0.mk (Kd.R_kept O7.out hK (fun k hk q => q.elim (fun h => hk.1 h) (fun h => absurd hk.2.2.1 (Nat.not_lt.mpr h)))); have B8 := Aside0.mk (below_kept B7.out hB0 hK HT6.out); clear hD hK hB0
      go_wp2_with fail
      refine (lt_Open D8.out (OK.out _ _ _ _ OKA.out OKA.out) rfl (by simp only; omega) HAB.out).mono ?_; rintro y w9 ⟨gl2, v9, rfl, hW, hS, hK, hB0⟩
      dsimp only at hW hS
      rw [HSC.out] at hW hS
      obtain ⟨A9, c9, rfl, hc9, hC9⟩ := Kd.S_reads hS
      have W9 := Aside0.mk hW; have C9 := Aside0.mk hC9; have L9 := Aside0.mk hc9; have B9 := Aside0.mk (below_kept B8.out hB0 hK HT6.out)
      have O9 := Aside0.mk (Kd.R_kept O8.out hK (fun k hk q => q.elim (fun h => hk.1 h) (fun h => absurd hk.2.2.1 (Nat.not_lt.mpr h))))
      obtain ⟨Aw, cw, rfl, hcw, hCw⟩ := Kd.R_reads O9.out
      have hsame := contralaw07_same.calls ks A9 c9 l0 Aw cw (l0.map strOfNums) true w9 hC9 hc9 hCw hcw HKS.out
      rw [List.length_map] at hsame
      have HSAME := Aside0.mk hsame
      clear hW hS hK hB0 hc9 hC9 hcw hCw hsame hopen
      go_wp2_with fail
      refine HSAME.out.mono ?_; rintro y w10 ⟨rfl, hDr⟩
      have W10 := Aside0.mk (W9.out.below hDr.below); have B10 := Aside0.mk (below_step B9.out hDr.below)
      clear hDr
      go_wp2_with fail
      refine (l_Len (N := 0) ⟨W10.out.1.mono (fun k hk => ⟨Nat.zero_le _, hk.2⟩), W10.out.2.1, Nat.zero_le _⟩).mono ?_; rintro y w11 ⟨rfl, hW, hB⟩; have B11 := Aside0.mk (below_step B10.out hB); clear hW hB
      go_wp2_with fail
      go_ret
      exact ⟨rfl, B11.out⟩
end Go.Proofs.Ythpdmjpimeibnaa.Pure
