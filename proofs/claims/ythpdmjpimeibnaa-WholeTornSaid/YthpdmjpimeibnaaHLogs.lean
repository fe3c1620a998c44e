/-
  The log's small head: a record is there behind a crash.
-/
import Derived.Test.YthpdmjpimeibnaaOOpen
namespace Go.Proofs.Ythpdmjpimeibnaa.M
open Go.RowKit Go.Proofs.YthpdmjpimeibnaaW.PrintWords Go.Proofs.YthpdmjpimeibnaaW.PrintLast Go.Proofs.YthpdmjpimeibnaaW.PrintMore
theorem crash_zero {d : DS} {keep : Int} (hr : d.renew = false) (hb : ∀ x ∈ d.all, 0 ≤ x ∧ x < 256) (hs : d.sure.length ≤ d.all.length) : d.crash keep 0 = { d with all := d.all.take (d.torn keep), down := true, fuse := -1 } := by
  have ht : d.torn keep ≤ d.all.length := by unfold DS.torn; omega
  unfold DS.crash
  rw [if_neg (by simp [hr])]
  by_cases h : d.torn keep > d.sure.length
  · have hl : (d.all.take (d.torn keep)).length = d.torn keep := by rw [List.length_take]; omega
    rw [if_pos h, rd_nat (by omega), xor_zero (hb _ (List.mem_of_mem_take (List.getElem_mem _))), List.set_getElem_self]
  · rw [if_neg h]
theorem put_free {d : DS} {x : List Int} {n : Int} (hd : d.down = false) (hf : d.fuse < 0) (hx : x.length ≤ 16384) (hl : (x.length : Int) + 8 ≤ d.room - d.all.length) : d.put x n = ({ d with all := d.all ++ Pure.Frame.rec_ x }, 0, n + 1) := by
  have hw := write_free (b := Pure.Frame.rec_ x) hd hf (by rw [Pure.Frame.rec_length]; omega)
  unfold DS.put
  rw [if_neg (by omega), hw]
  simp
end Go.Proofs.Ythpdmjpimeibnaa.M
namespace Go.Proofs.Ythpdmjpimeibnaa.Pure
open Go.RowKit Go.Proofs.Ythpdmjpimeibnaa.M Go.Proofs.YthpdmjpimeibnaaW.PrintWords Go.Proofs.YthpdmjpimeibnaaW.PrintLast Go.Proofs.YthpdmjpimeibnaaW.PrintMore
set_option linter.unusedVariables false
set_option linter.unusedSimpArgs false
set_option maxHeartbeats 4000000 in
set_option maxRecDepth 100000 in
theorem logs_calls (w : World) : Calls Try.prog 25 #[] w fun e w' => e = .returned (.bool true) ∧ Below w.heap.size w w' := by
  have b1 : Frame.Bytes [120] := fun x hx => by rw [List.mem_singleton.mp hx]; exact ⟨by decide, by decide⟩
  have b2 : Frame.Bytes [121, 122] := fun x hx => by simp only [List.mem_cons, List.not_mem_nil, or_false] at hx; rcases hx with rfl | rfl <;> exact ⟨by decide, by decide⟩
  obtain ⟨r1, hr1⟩ : ∃ r, r = Frame.rec_ [120] := ⟨_, rfl⟩
  obtain ⟨r2, hr2⟩ : ∃ r, r = Frame.rec_ [121, 122] := ⟨_, rfl⟩
  have l1 : r1.length = 9 := by rw [hr1, Frame.rec_length]; rfl
  have l2 : r2.length = 10 := by rw [hr2, Frame.rec_length]; rfl
  have c1 : Frame.Bytes r1 := by rw [hr1]; exact Frame.rec_bytes b1
  have c2 : Frame.Bytes r2 := by rw [hr2]; exact Frame.rec_bytes b2
  have OK := Aside0.mk (show ∀ s a r dn, s.length ≤ 100 → a.length ≤ 100 → DS.Ok ⟨100, s, a, r, dn, -1⟩ from fun s a r dn h1 h2 => ⟨by simp only; omega, by simp only; omega, by simp only; omega, by simp only; omega, by simp only; omega, by simp only; omega⟩)
  have E1 := Aside0.mk (show DS.opened ⟨100, [], [], false, false, -1⟩ = ⟨100, [], [], false, false, -1⟩ from rfl)
  have e2 : DS.put ⟨100, [], [], false, false, -1⟩ [120] 0 = (⟨100, [], r1, false, false, -1⟩, 0, 1) := by
    rw [put_free rfl (by simp only; omega) (by simp) (by simp), hr1]; rfl
  have e2a : DS.add ⟨100, [], [], false, false, -1⟩ [120] 0 = (⟨100, r1, r1, false, false, -1⟩, 0, 1) := by unfold DS.add; rw [e2]; rfl
  have e3 : DS.put ⟨100, r1, r1, false, false, -1⟩ [121, 122] 1 = (⟨100, r1, r1 ++ r2, false, false, -1⟩, 0, 2) := by
    rw [put_free rfl (by simp only; omega) (by simp) (by simp [l1]), hr2]; rfl
  have l3 : (r1 ++ r2).length = 19 := by rw [List.length_append, l1, l2]
  obtain ⟨T, hT⟩ : ∃ T, T = r1 ++ r2.take 9 := ⟨_, rfl⟩
  have hTl : T.length = 18 := by rw [hT, List.length_append, List.length_take, l1, l2]; rfl
  have hTb : Frame.Bytes T := by rw [hT]; exact c1.append (c2.take 9)
  have e4 : DS.crash ⟨100, r1, r1 ++ r2, false, false, -1⟩ 9 0 = ⟨100, r1, T, false, true, -1⟩ := by
    rw [crash_zero (d := ⟨100, r1, r1 ++ r2, false, false, -1⟩) rfl (c1.append c2) (by simp only [List.length_append]; omega)]
    have ht : DS.torn ⟨100, r1, r1 ++ r2, false, false, -1⟩ 9 = 18 := by unfold DS.torn; simp only [l1, l3]; omega
    rw [ht, hT]
    simp only
    rw [List.take_append, l1, List.take_of_length_le (by omega)]
  have e5 : DS.up ⟨100, r1, T, false, true, -1⟩ = ⟨100, T, T, false, false, -1⟩ := rfl
  have hst : Frame.Stops (r2.take 9) := by
    have := Frame.stops_torn b2 (by simp) 9 (by rw [← hr2, l2]; omega) (t := 0) ⟨by decide, by decide⟩ (.inl (by rw [← hr2, l2]; omega))
    rw [← hr2, Frame.marLast_zero (c2.take 9)] at this
    exact this
  have e6 : Frame.scan T.length T = ([[120]], 9) := by
    have := Frame.scan_all [[120]] T.length (r2.take 9) (by rw [hTl]; simp) (by intro d hd; rw [List.mem_singleton.mp hd]; exact ⟨b1, by simp⟩) hst
    have ea : Frame.all [[120]] = r1 := by rw [hr1]; simp [Frame.all]
    rw [ea, ← hT, l1] at this
    exact this
  have B1_ := Aside0.mk b1; have B2_ := Aside0.mk b2; have HTl := Aside0.mk hTl; have HTb := Aside0.mk hTb; have HL1 := Aside0.mk l1; have HL3 := Aside0.mk l3
  have E2 := Aside0.mk e2; have E2a := Aside0.mk e2a; have E3 := Aside0.mk e3; have E4 := Aside0.mk e4; have E5 := Aside0.mk e5; have E6 := Aside0.mk e6
  clear b1 b2 hr1 hr2 l1 l2 c1 c2 e2 e2a e3 l3 hT hTl hTb e4 e5 hst e6
  go_enter Try.func25, Try.ntmps25
  go_wp2_with fail
  refine (disk_New w (by decide) (by decide)).mono ?_; rintro x w1 ⟨g, rfl, hg, hD, hB⟩; have D1 := Aside0.mk hD; have B1 := Aside0.mk hB; clear hg hD hB
  go_wp2_with fail
  refine (l_Open D1.out (OK.out _ _ _ _ (by decide) (by decide)) B1.out.size rfl (by simp only; omega) (fun x hx => by simp at hx)).mono ?_; rintro x w2 ⟨gl, v2, rfl, hW, hS, hB⟩; rw [E1.out] at hW; obtain ⟨A2, c2, rfl, -, -⟩ := Kd.S_reads hS; have W2 := Aside0.mk (show IsW w.heap.size w2 g gl ⟨100, [], [], false, false, -1⟩ 0 from hW); have B2 := Aside0.mk (B1.out.trans hB); clear hW hS hB
  go_wp2_with (first | ((with_reducible refine gate_dst (N := 32) rfl ?_); refine V_litmark w2.heap.size 22 5 ?hg ?hg2 Try.underlying22 Try.underlying5 (xs := [120]) (inner := [.int .u8 120]) (ok := fun k => k = w2.heap.size) rfl ?hr ?hr2 rfl (Below.refl _ _) (Nat.le_refl _) (by simp) ?_; (case hg => rfl); (case hg2 => rfl); (case hr => first | (go_simp; done) | (go_simp; rfl)); (case hr2 => intro W_; first | (go_simp; done) | (go_simp; rfl)); intro v3 w3 ho hb hg_; clear hg_; obtain ⟨A3, c3, e_, hc_, hF_⟩ := ho; subst e_; have F3 := Aside0.mk hF_; have L3 := Aside0.mk hc_; have W3 := Aside0.mk (W2.out.below hb); have B3 := Aside0.mk (below_step B2.out hb); clear hb hc_ hF_))
  refine (l_Add (x := [120]) W3.out (OK.out _ _ _ _ (by decide) (by decide)) (by rw [E2.out]; exact OK.out _ _ _ _ (by decide) (by rw [HL1.out]; decide)) B3.out.size (F3.out _ (fun _ _ _ => rfl)) L3.out B1_.out (by decide)).mono ?_; rintro x w4 ⟨rfl, hW, hB⟩; rw [E2a.out] at hW ⊢; dsimp only at hW ⊢; have W4 := Aside0.mk hW; have B4 := Aside0.mk (B3.out.trans hB); clear hW hB
  go_wp2_with (first | ((with_reducible refine gate_dst (N := 39) rfl ?_); refine V_litmark w4.heap.size 22 5 ?hg ?hg2 Try.underlying22 Try.underlying5 (xs := [121, 122]) (inner := [.int .u8 121, .int .u8 122]) (ok := fun k => k = w4.heap.size) rfl ?hr ?hr2 rfl (Below.refl _ _) (Nat.le_refl _) (by simp) ?_; (case hg => rfl); (case hg2 => rfl); (case hr => first | (go_simp; done) | (go_simp; rfl)); (case hr2 => intro W_; first | (go_simp; done) | (go_simp; rfl)); intro v5 w5 ho hb hg_; clear hg_; obtain ⟨A5, c5, e_, hc_, hF_⟩ := ho; subst e_; have F5 := Aside0.mk hF_; have L5 := Aside0.mk hc_; have W5 := Aside0.mk (W4.out.below hb); have B5 := Aside0.mk (below_step B4.out hb); clear hb hc_ hF_))
  refine (l_Put (x := [121, 122]) W5.out (OK.out _ _ _ _ (by rw [HL1.out]; decide) (by rw [HL1.out]; decide)) B5.out.size (F5.out _ (fun _ _ _ => rfl)) L5.out B2_.out (by decide)).mono ?_; rintro x w6 ⟨rfl, hW, hB⟩; rw [E3.out] at hW ⊢; dsimp only at hW ⊢; have W6 := Aside0.mk hW; have B6 := Aside0.mk (B5.out.trans hB); clear hW hB
  go_wp2_with fail
  refine (l_Len W6.out).mono ?_; rintro x w7 ⟨rfl, hW, hB⟩; have D7 := Aside0.mk hW.1; have B7 := Aside0.mk (below_step B6.out hB); clear hW hB
  go_wp2_with fail
  refine (s_Crash (N := w.heap.size) D7.out (OK.out _ _ _ _ (by rw [HL1.out]; decide) (by rw [HL3.out]; decide)) (fun _ => by simp only [List.length_append]; omega) (by decide) (fun k hk => hk.1) B7.out.size).mono ?_; rintro x w8 ⟨rfl, hD, hB⟩; rw [E4.out] at hD; have D8 := Aside0.mk hD; have B8 := Aside0.mk (B7.out.trans hB); clear hD hB
  go_wp2_with fail
  refine (s_Up (N := w.heap.size) D8.out (OK.out _ _ _ _ (by rw [HL1.out]; decide) (by rw [HTl.out]; decide)) (fun k hk => hk) B8.out.size).mono ?_; rintro x w9 ⟨rfl, hD, hB⟩; rw [E5.out] at hD; have D9 := Aside0.mk hD; have B9 := Aside0.mk (B8.out.trans hB); clear hD hB
  go_wp2_with fail
  refine (l_Open D9.out (OK.out _ _ _ _ (by rw [HTl.out]; decide) (by rw [HTl.out]; decide)) B9.out.size rfl (by simp only; omega) HTb.out).mono ?_; rintro x w10 ⟨gl2, v10, rfl, hW, hS, hB⟩; dsimp only at hW hS ⊢; rw [E6.out] at hW hS; obtain ⟨gb, c10, rfl, -, -, -⟩ := Kd.R_form (Kd.S_R hS) (by decide); have hC := (Kd.S_reads' hS).2.2; have W10 := Aside0.mk hW; have C10 := Aside0.mk hC; have B10 := Aside0.mk (B9.out.trans hB); clear hW hS hB hC
  go_wp2_with fail
  refine (l_Len W10.out).mono ?_; rintro x w11 ⟨rfl, hW, hB⟩; have B11 := Aside0.mk (below_step B10.out hB); obtain ⟨ad, A0, c0, e_, hx, hle, hcc⟩ := at_L1 (Kd.C_below C10.out hB) 0 (by decide) (by decide); cases e_; have hx2 : w11.cell? ⟨gb, 0, none⟩ = some (.slice A0 (rd_L1 [[120]] 0).length c0) := hx; have hcv := Kd.C_string (P := Try.prog) (c := c0) Try.underlying22 Try.underlying5 Try.underlying9 hcc; clear hW hB
  have hs : strOfNums [120] = ⟨#[120]⟩ := by decide +kernel
  have hrd : rd_L1 [[120]] 0 = [120] := rfl
  rw [hrd] at hx2 hcv
  rw [hs] at hcv
  have hcv2 : (convert 22 9 (.slice A0 1 c0)).run Try.prog w11 = .ok (.string ⟨#[120]⟩) w11 := hcv
  clear hrd hs hle hcc hx hcv
  go_wp2_with fail
  go_ret
  exact ⟨rfl, B11.out⟩
end Go.Proofs.Ythpdmjpimeibnaa.Pure
