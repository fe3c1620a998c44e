/-
  WalDown, walked by hand: on a disk that is down nothing is opened, put or renewed.
-/
import Derived.Test.YthpdmjpimeibnaaOWal4
import Derived.Test.YthpdmjpimeibnaaHLogs
import Derived.Test.YthpdmjpimeibnaaPWal
import Derived.Test.YthpdmjpimeibnaaRowWalDown
namespace Go.Proofs.Ythpdmjpimeibnaa.Pure
open Go.RowKit Go.Proofs.Ythpdmjpimeibnaa.M Go.Proofs.YthpdmjpimeibnaaW.PrintWords Go.Proofs.YthpdmjpimeibnaaW.PrintLast Go.Proofs.YthpdmjpimeibnaaW.PrintMore
set_option linter.unusedVariables false
set_option linter.unusedSimpArgs false
theorem crash_whole0 {d : DS} {keep turn : Int} (hr : d.renew = false) (hs : d.sure = d.all) : d.crash keep turn = { d with down := true, fuse := -1 } := by
  have ht : d.torn keep = d.all.length := by unfold DS.torn; rw [hs]; omega
  unfold DS.crash
  rw [if_neg (by simp [hr]), ht, if_neg (by rw [hs]; omega), List.take_length]
set_option maxHeartbeats 4000000 in
set_option maxRecDepth 100000 in
theorem WalDown_hand (A0 : Option Addr) (c0 : Nat) (l0 : List (List Int)) (w : World)
    (hr0 : Kd.C (Kd.slice 5 (Kd.int .u8)) w A0 l0.length l0) (hc0 : l0.length ≤ c0)
    (g0 : l0.length * 24 ≤ 140737488351232 ∧ ∀ x ∈ l0, (x.length * 1 ≤ 140737488351232 ∧ ∀ y0_ ∈ x, (Lit.int .u8 y0_).wf = true)) :
    Calls Try.prog 10 #[.slice A0 l0.length c0] w fun e w' => e = .returned (.bool true) ∧ Below w.heap.size w w' := by
  have hB : ∀ x ∈ l0, Frame.Bytes x := fun x hx => wf_u8 (g0.2 x hx)
  have HB := Aside0.mk (Below.refl w.heap.size w)
  have HR0 := Aside0.mk hr0; have HC0 := Aside0.mk hc0; clear hr0 hc0
  by_cases h0_ : l0.length > 10
  · have c0_ : decide (10 < (l0.length : Int)) = true := decide_eq_true (by omega)
    have c1_ : decide ((l0.length : Int) > 10) = true := decide_eq_true (by omega)
    clear h0_
    clear g0 hB
    go_enter Try.func10, Try.ntmps10
    go_wp2_with (first | (go_at_call 25; refine (logs_calls _).mono ?_; rintro e w1 ⟨rfl, hb⟩; have B1 := Aside0.mk (below_step HB.out hb); clear hb))
    go_ret
    exact ⟨rfl, B1.out⟩
  have c0a_ : decide (10 < (l0.length : Int)) = false := decide_eq_false (by omega)
  have c0b_ : decide ((l0.length : Int) > 10) = false := decide_eq_false (by omega)
  have HL0 := Aside0.mk (show l0.length ≤ 10 by omega)
  have BB := Aside0.mk hB
  have OK := Aside0.mk (show ∀ dn, DS.Ok ⟨1000, [], [], false, dn, -1⟩ from fun dn => ⟨by simp only; omega, by simp only; omega, by simp, by simp, by simp only; omega, by simp only; omega⟩)
  have E1 := Aside0.mk (show DS.opened ⟨1000, [], [], false, false, -1⟩ = ⟨1000, [], [], false, false, -1⟩ from rfl)
  clear h0_ hB
  go_enter Try.func10, Try.ntmps10
  go_wp2_with fail
  refine (logs_calls _).mono ?_; rintro e w1 ⟨rfl, hb⟩; have B1 := Aside0.mk (below_step HB.out hb); clear hb HB
  go_wp2_with fail
  refine (disk_New w1 (by omega) (by omega)).mono ?_; rintro x w2 ⟨g, rfl, hg, hD, hB⟩; have D2 := Aside0.mk (hD.mono (P' := fun k => w.heap.size ≤ k) (fun k hk => Nat.le_trans B1.out.size hk)); have B2 := Aside0.mk (below_step B1.out hB); clear hg hD hB
  go_wp2_with fail
  refine (l_Open D2.out (OK.out _) B2.out.size rfl (by simp only; omega) (fun x hx => by simp at hx)).mono ?_; rintro x w3 ⟨gl, v3, rfl, hW, hS, hB⟩; rw [E1.out] at hW; have W3 := Aside0.mk (show IsW w.heap.size w3 g gl ⟨1000, [], [], false, false, -1⟩ 0 from hW); have B3 := Aside0.mk (B2.out.trans hB); clear hW hS hB
  go_wp2_with fail
  refine (d_Crash W3.out.1 (OK.out _) (fun _ => Nat.le_refl _) (by decide)).mono ?_; rintro y w4 ⟨rfl, hD, hK, hB0⟩
  rw [crash_whole0 rfl rfl] at hD
  have W4 := Aside0.mk (IsW.step W3.out.2.1 W3.out.2.2 B3.out.size (fun k hk => hk) (show IsD _ w4 g ⟨1000, [], [], false, true, -1⟩ from hD) hK hB0)
  have B4 := Aside0.mk (B3.out.trans W4.out.2)
  clear hD hK hB0
  go_wp2_with fail
  go_loopg [32] (l0.length + 1) (fun kq v32 w' => ∃ (i : Nat), v32 = .int .i64 (i : Int) ∧ Aside0 (i ≤ l0.length ∧ i + kq = l0.length + 1) ∧ Aside0 (IsW w.heap.size w' g gl ⟨1000, [], [], false, true, -1⟩ 0) ∧ Aside0 (Below w.heap.size w w'))
  case atStart => exact ⟨0, rfl, ⟨by omega, by omega⟩, ⟨W4.out.1⟩, B4⟩
  case round =>
    obtain ⟨i, rfl, HI, W5, B5⟩ := hrel
    by_cases hi : i < l0.length
    · have d1 : decide ((i : Int) < (l0.length : Int)) = true := decide_eq_true (by omega)
      have hi0 : (0 : Int) ≤ (i : Int) := by omega
      have hi1 : (i : Int) < (l0.length : Int) := by omega
      obtain ⟨ad, Ax, cx, rfl, hx, hle, hcx⟩ := at_L1 HR0.out (i : Int) hi0 hi1
      replace hx := cell_kept hx (Kept.of_below B5.out (fun _ => False)) id
      have hre := rdL1 hi
      obtain ⟨x, hxe⟩ : ∃ x, x = rd_L1 l0 (i : Int) := ⟨_, rfl⟩
      rw [← hxe] at hx hle hcx hre
      rw [Int.toNat_natCast] at hx
      have hxm : x ∈ l0 := by rw [hre]; exact List.getElem_mem hi
      have HXB := Aside0.mk (BB.out x hxm); have HLE := Aside0.mk hle; have HCX := Aside0.mk hcx; have HII := Aside0.mk hi
      have b2 : wrap64 ((i : Int) + 1) = ((i + 1 : Nat) : Int) := by have := HL0.out; unfold wrap64; omega
      have q1 := eq_true hi0
      have q2 := eq_true hi1
      have q3 : decide ((0 : Int) ≤ (i : Int)) = true := decide_eq_true hi0
      have NK := Aside0.mk (show (i + 1 ≤ l0.length ∧ i + 1 + (gk - 1) = l0.length + 1) ∧ 0 < gk by have := HI.out; omega)
      clear hxe hre hxm hle hcx hi
      by_cases hlong : 1000 < x.length
      · have t1 : decide ((x.length : Int) > 1000) = true := decide_eq_true (by omega)
        have t2 : decide (1000 < (x.length : Int)) = true := decide_eq_true (by omega)
        clear hlong
        go_wp2_with fail
        go_ret
        exact ⟨rfl, B5.out⟩
      have t1 : decide ((x.length : Int) > 1000) = false := decide_eq_false (by omega)
      have t2 : decide (1000 < (x.length : Int)) = false := decide_eq_false (by omega)
      have HXS := Aside0.mk (show x.length ≤ 16384 by omega)
      clear hlong
      go_wp2_with fail
      refine (l_Put_down W5.out rfl (Kd.C_below HCX.out B5.out) HLE.out HXB.out HXS.out).mono ?_; rintro y w6 ⟨rfl, hW, hB⟩; have W6 := Aside0.mk hW; have B6 := Aside0.mk (below_step B5.out hB); clear hW hB
      go_wp2_with fail
      refine (l_Add_down W6.out rfl (Kd.C_below HCX.out B6.out) HLE.out HXB.out HXS.out).mono ?_; rintro y w7 ⟨rfl, hW, hB⟩; have W7 := Aside0.mk hW; have B7 := Aside0.mk (below_step B6.out hB); clear hW hB
      go_wp2_with fail
      have hal := below_alloc (Below.refl w7.heap.size w7) (.cells #[.slice Ax x.length cx] 22)
      have W8 := Aside0.mk (W7.out.below hal); have B8 := Aside0.mk (below_step B7.out hal)
      have C8 := Aside0.mk (show (w7.alloc (.cells #[.slice Ax x.length cx] 22)).cell? ⟨w7.heap.size, 0, none⟩ = some (.slice Ax x.length cx) from (blk_cell (show (w7.alloc (.cells #[.slice Ax x.length cx] 22)).heap[w7.heap.size]? = some (.cells #[.slice Ax x.length cx] 22 (0, 0)) from Array.getElem?_push_size) 0).trans rfl)
      clear hal
      generalize w7.alloc (.cells #[.slice Ax x.length cx] 22) = w8 at W8 B8 C8 ⊢
      generalize w7.heap.size = gx at C8 ⊢
      refine (l_Renew_down W8.out rfl C8.out (Kd.C_below HCX.out B8.out) HLE.out HXB.out HXS.out).mono ?_; rintro y w9 ⟨rfl, hW, hB⟩; have W9 := Aside0.mk hW; have B9 := Aside0.mk (below_step B8.out hB); clear hW hB
      go_wp2_with fail
      go_roundg (gk - 1)
      case measure => have := NK.out.2; omega
      case rel => exact ⟨i + 1, (by first | rw [b2] | exact congrArg _ (by omega)), ⟨NK.out.1.1, NK.out.1.2⟩, W9, B9⟩
    · have d1 : decide ((i : Int) < (l0.length : Int)) = false := decide_eq_false (by omega)
      have d2 := eq_false (show ¬ (i : Int) < (l0.length : Int) by omega)
      clear hi
      go_wp2_with fail
      refine (l_Open_down W5.out.1 rfl).mono ?_; rintro x w6 ⟨rfl, hD, hB⟩; have W6 := Aside0.mk (W5.out.below hB); have B6 := Aside0.mk (below_step B5.out hB); clear hD hB
      go_wp2_with fail
      refine (l_Sync W6.out (OK.out _) B6.out.size).mono ?_; rintro x w7 ⟨rfl, hW, hB⟩; have B7 := Aside0.mk (B6.out.trans hB); clear hW hB
      go_wp2_with fail
      go_ret
      exact ⟨rfl, B7.out⟩
end Go.Proofs.Ythpdmjpimeibnaa.Pure
