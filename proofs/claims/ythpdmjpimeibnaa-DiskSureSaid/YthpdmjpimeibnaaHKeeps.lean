/-
  The disk's small head: what was synced is there behind a crash.
-/
import Derived.Test.YthpdmjpimeibnaaODisk5
namespace Go.Proofs.Ythpdmjpimeibnaa.Pure
open Go.RowKit Go.Proofs.Ythpdmjpimeibnaa.M Go.Proofs.YthpdmjpimeibnaaW.PrintWords Go.Proofs.YthpdmjpimeibnaaW.PrintLast Go.Proofs.YthpdmjpimeibnaaW.PrintMore
set_option linter.unusedVariables false
set_option linter.unusedSimpArgs false
set_option maxHeartbeats 4000000 in
set_option maxRecDepth 100000 in
theorem keeps_calls (w : World) : Calls Try.prog 12 #[] w fun e w' => e = .returned (.bool true) ∧ Below w.heap.size w w' := by
  have ok : ∀ s a r dn, s.length ≤ 10 → a.length ≤ 10 → DS.Ok ⟨10, s, a, r, dn, -1⟩ := fun s a r dn h1 h2 => ⟨by simp only; omega, by simp only; omega, by simp only; omega, by simp only; omega, by simp only; omega, by simp only; omega⟩
  have OK := Aside0.mk ok
  have e1 : DS.write ⟨10, [], [], false, false, -1⟩ [97, 98] = (⟨10, [], [97, 98], false, false, -1⟩, 0) := by kernel_rfl
  have e2 : DS.sync ⟨10, [], [97, 98], false, false, -1⟩ = (⟨10, [97, 98], [97, 98], false, false, -1⟩, 0) := rfl
  have e3 : DS.write ⟨10, [97, 98], [97, 98], false, false, -1⟩ [99, 100] = (⟨10, [97, 98], [97, 98, 99, 100], false, false, -1⟩, 0) := by kernel_rfl
  have e4 : DS.crash ⟨10, [97, 98], [97, 98, 99, 100], false, false, -1⟩ 1 0 = ⟨10, [97, 98], [97, 98, 99], false, true, -1⟩ := by kernel_rfl
  have e5 : DS.up ⟨10, [97, 98], [97, 98, 99], false, true, -1⟩ = ⟨10, [97, 98, 99], [97, 98, 99], false, false, -1⟩ := rfl
  have E1 := Aside0.mk e1; have E2 := Aside0.mk e2; have E3 := Aside0.mk e3; have E4 := Aside0.mk e4; have E5 := Aside0.mk e5
  clear ok e1 e2 e3 e4 e5
  go_enter Try.func12, Try.ntmps12
  go_wp2_with fail
  refine (disk_New w (by decide) (by decide)).mono ?_; rintro x w1 ⟨g, rfl, hg, hD, hB⟩; have D1 := Aside0.mk hD; have B1 := Aside0.mk hB; clear hg hD hB
  go_wp2_with (first | ((with_reducible refine gate_dst (N := 18) rfl ?_); refine V_litmark w1.heap.size 22 5 ?hg ?hg2 Try.underlying22 Try.underlying5 (xs := [97, 98]) (inner := [.int .u8 97, .int .u8 98]) (ok := fun k => k = w1.heap.size) rfl ?hr ?hr2 rfl (Below.refl _ _) (Nat.le_refl _) (by simp) ?_; (case hg => rfl); (case hg2 => rfl); (case hr => first | (go_simp; done) | (go_simp; rfl)); (case hr2 => intro W_; first | (go_simp; done) | (go_simp; rfl)); intro v2 w2 ho hb hg_; clear hg_; obtain ⟨A2, c2, e_, hc_, hF_⟩ := ho; subst e_; have F2 := Aside0.mk hF_; have L2 := Aside0.mk hc_; have D2 := Aside0.mk (D1.out.bound.below hb); have B2 := Aside0.mk (below_step B1.out hb); clear hb hc_ hF_))
  refine (s_Write (b := [97, 98]) D2.out (OK.out _ _ _ _ (by decide) (by decide)) (fun k hk => hk.1) B2.out.size (fun W' hk => F2.out W' (fun k hk1 hlt => hk.2 k hlt (fun q => by subst hk1; exact absurd q.2 (Nat.lt_irrefl _)))) L2.out (by decide)).mono ?_; rintro x w3 ⟨rfl, hD, hB⟩; rw [E1.out] at hD ⊢; dsimp only at hD ⊢; have D3 := Aside0.mk hD; have B3 := Aside0.mk (B2.out.trans hB); clear hD hB
  go_wp2_with fail
  refine (s_Sync D3.out (OK.out _ _ _ _ (by decide) (by decide)) (fun k hk => hk) B3.out.size).mono ?_; rintro x w4 ⟨rfl, hD, hB⟩; rw [E2.out] at hD ⊢; dsimp only at hD ⊢; have D4 := Aside0.mk hD; have B4 := Aside0.mk (B3.out.trans hB); clear hD hB
  go_wp2_with (first | ((with_reducible refine gate_dst (N := 24) rfl ?_); refine V_litmark w4.heap.size 22 5 ?hg ?hg2 Try.underlying22 Try.underlying5 (xs := [99, 100]) (inner := [.int .u8 99, .int .u8 100]) (ok := fun k => k = w4.heap.size) rfl ?hr ?hr2 rfl (Below.refl _ _) (Nat.le_refl _) (by simp) ?_; (case hg => rfl); (case hg2 => rfl); (case hr => first | (go_simp; done) | (go_simp; rfl)); (case hr2 => intro W_; first | (go_simp; done) | (go_simp; rfl)); intro v5 w5 ho hb hg_; clear hg_; obtain ⟨A5, c5, e_, hc_, hF_⟩ := ho; subst e_; have F5 := Aside0.mk hF_; have L5 := Aside0.mk hc_; have D5 := Aside0.mk (D4.out.bound.below hb); have B5 := Aside0.mk (below_step B4.out hb); clear hb hc_ hF_))
  refine (s_Write (b := [99, 100]) D5.out (OK.out _ _ _ _ (by decide) (by decide)) (fun k hk => hk.1) B5.out.size (fun W' hk => F5.out W' (fun k hk1 hlt => hk.2 k hlt (fun q => by subst hk1; exact absurd q.2 (Nat.lt_irrefl _)))) L5.out (by decide)).mono ?_; rintro x w6 ⟨rfl, hD, hB⟩; rw [E3.out] at hD ⊢; dsimp only at hD ⊢; have D6 := Aside0.mk hD; have B6 := Aside0.mk (B5.out.trans hB); clear hD hB
  go_wp2_with fail
  refine (s_Crash D6.out (OK.out _ _ _ _ (by decide) (by decide)) (fun _ => by decide) (by decide) (fun k hk => hk) B6.out.size).mono ?_; rintro x w7 ⟨rfl, hD, hB⟩;  have D7 := Aside0.mk hD; have B7 := Aside0.mk (B6.out.trans hB); clear hD hB
  rw [E4.out] at D7
  go_wp2_with fail
  refine (s_Read_down D7.out rfl).mono ?_; rintro x w8 ⟨rfl, hD, hB⟩; have D8 := Aside0.mk hD; have B8 := Aside0.mk (below_step B7.out hB); clear hD hB
  go_wp2_with fail
  refine (s_Up D8.out (OK.out _ _ _ _ (by decide) (by decide)) (fun k hk => hk) B8.out.size).mono ?_; rintro x w9 ⟨rfl, hD, hB⟩;  have D9 := Aside0.mk hD; have B9 := Aside0.mk (B8.out.trans hB); clear hD hB
  rw [E5.out] at D9
  go_wp2_with fail
  refine (d_Read D9.out (OK.out _ _ _ _ (by decide) (by decide)) rfl).mono ?_; rintro x w10 ⟨v, rfl, hO, hD, hB⟩; have B10 := Aside0.mk (below_step B9.out hB); have hcv := own_string (P := Try.prog) Try.underlying22 Try.underlying5 Try.underlying9 (Kd.own_of_R hO); clear hO hD hB
  have hs : strOfNums [97, 98, 99] = ⟨#[97, 98, 99]⟩ := by decide +kernel
  dsimp only at hcv
  rw [hs] at hcv
  clear hs
  go_wp2_with fail
  go_ret
  exact ⟨rfl, B10.out⟩
end Go.Proofs.Ythpdmjpimeibnaa.Pure
