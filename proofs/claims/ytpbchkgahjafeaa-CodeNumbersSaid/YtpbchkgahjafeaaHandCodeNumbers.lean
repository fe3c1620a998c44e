/-
  CodeNumbers, walked by hand: each whole number has the document's bytes, behind what is there, and is read as it was, with what is behind it.
-/
import Derived.Test.YtpbchkgahjafeaaOBytes
import Derived.Test.YtpbchkgahjafeaaPRef04
namespace Go.Proofs.Ytpbchkgahjafeaa.Pure
open Go.RowKit Go.Proofs.Ytpbchkgahjafeaa.M Go.Proofs.YtpbchkgahjafeaaW.PrintWords Go.Proofs.YtpbchkgahjafeaaW.PrintLast Go.Proofs.YtpbchkgahjafeaaW.PrintMore Go.Proofs.Ytpbchkgahjafeaa.Pure.Code Go.Proofs.Ytpbchkgahjafeaa.Pure.Bits
set_option linter.unusedVariables false
set_option linter.unusedSimpArgs false
theorem wf_bytes {l : List Int} (g : l.length * 1 ≤ 140737488351232 ∧ ∀ x ∈ l, (Lit.int .u8 x).wf = true) : Bytes l := fun x hx => by
  have := g.2 x hx; simp [Lit.wf, IntKind.min, IntKind.max, IntKind.signed, IntKind.bits] at this; omega
set_option maxHeartbeats 4000000 in
set_option maxRecDepth 100000 in
theorem CodeNumbers_hand (A0 : Option Addr) (c0 : Nat) (l0 : List Int) (n : Int) (A2 : Option Addr) (c2 : Nat) (l2 : List Int) (w : World) (hr0 : Kd.C (Kd.int .u8) w A0 l0.length l0) (hc0 : l0.length ≤ c0) (hr2 : Kd.C (Kd.int .u8) w A2 l2.length l2) (hc2 : l2.length ≤ c2)
    (g0 : l0.length * 1 ≤ 140737488351232 ∧ ∀ x ∈ l0, (Lit.int .u8 x).wf = true) (g1 : (Lit.int .i64 n).wf = true) (g2 : l2.length * 1 ≤ 140737488351232 ∧ ∀ x ∈ l2, (Lit.int .u8 x).wf = true) :
    Calls Try.prog 3 #[.slice A0 l0.length c0, .int .i64 n, .slice A2 l2.length c2] w fun e w' => e = .returned (.bool true) ∧ Below w.heap.size w w' := by
  have hn := wf_i64 g1
  have hB2 := wf_bytes g2
  obtain ⟨k1, h1⟩ := writes_ev.rounds
  have HB := Aside0.mk (Below.refl w.heap.size w)
  have H1 := Aside0.mk h1; clear h1
  have HR0 := Aside0.mk hr0; have HC0 := Aside0.mk hc0; have HR2 := Aside0.mk hr2; have HC2 := Aside0.mk hc2; clear hr0 hc0 hr2 hc2
  by_cases hlen : l0.length > 500
  · have c0_ : decide (500 < (l0.length : Int)) = true := decide_eq_true (by omega)
    have c1_ : decide ((l0.length : Int) > 500) = true := decide_eq_true (by omega)
    clear g0 g1 g2 hn
    go_enter Try.func3, Try.ntmps3
    go_wp2_with (first | (go_at_call 10; refine (contralaw04_writes.calls k1 true _ H1.out).mono ?_; rintro e w1 ⟨rfl, hb⟩; have B1 := Aside0.mk (below_step HB.out hb); clear hb))
    go_ret
    exact ⟨rfl, B1.out⟩
  have c0_ : decide (500 < (l0.length : Int)) = false := decide_eq_false (by omega)
  have c1_ : decide ((l0.length : Int) > 500) = false := decide_eq_false (by omega)
  by_cases hlen2 : l2.length > 500
  · have c2_ : decide (500 < (l2.length : Int)) = true := decide_eq_true (by omega)
    have c3_ : decide ((l2.length : Int) > 500) = true := decide_eq_true (by omega)
    clear g0 g1 g2 hn
    go_enter Try.func3, Try.ntmps3
    go_wp2_with (first | (go_at_call 10; refine (contralaw04_writes.calls k1 true _ H1.out).mono ?_; rintro e w1 ⟨rfl, hb⟩; have B1 := Aside0.mk (below_step HB.out hb); clear hb))
    go_ret
    exact ⟨rfl, B1.out⟩
  · have c2_ : decide (500 < (l2.length : Int)) = false := decide_eq_false (by omega)
    have c3_ : decide ((l2.length : Int) > 500) = false := decide_eq_false (by omega)
    have HL0 := Aside0.mk (show l0.length ≤ 500 by omega)
    have HL2 := Aside0.mk (show l2.length ≤ 500 by omega)
    have hp := enc_pos n
    have h10 := enc_len hn
    obtain ⟨k2, h2⟩ := (num_ev l0 n hn (by omega)).rounds
    obtain ⟨k5, h5⟩ := (ref_num_ev hn).rounds
    have HE10 := Aside0.mk h10
    obtain ⟨L, hL⟩ : ∃ L, L = l0 ++ enc n := ⟨_, rfl⟩
    rw [← hL] at h2
    have H2 := Aside0.mk h2; clear h2
    have H5 := Aside0.mk h5; clear h5
    have hlR : (enc n ++ l2).length = (enc n).length + l2.length := List.length_append
    obtain ⟨k3, h3⟩ := (rd_num_ev (l := enc n ++ l2) (by omega) (fun x hx => by rcases List.mem_append.mp hx with q | q; exact enc_bytes n x q; exact hB2 x q) (a := 0) (Nat.zero_le _)).rounds
    have e3 : rdNum (enc n ++ l2) 0 = (n, (enc n).length, 0) := by
      have := rdNum_enc hn (enc n ++ l2) l2 0 (by rw [List.drop_zero])
      rwa [Nat.zero_add] at this
    rw [e3] at h3
    dsimp only at h3
    have H3 := Aside0.mk h3; clear h3 e3
    have HF1 := Aside0.mk (show code_Reader_Err.f (enc n ++ l2) ((enc n).length : Int) 0 = some (0, ((enc n).length : Int), 0) from rfl)
    have hf2 := left_f (enc n ++ l2) (enc n).length 0 (by omega) (by omega)
    rw [show (enc n ++ l2).length - (enc n).length = l2.length by omega] at hf2
    have HF2 := Aside0.mk hf2; clear hf2
    have hf3 := end_f (enc n ++ l2) (enc n).length 0 (by omega) (by omega)
    obtain ⟨ev, bz, HF3, z1, z2⟩ : ∃ (ev : Int) (bz : Bool), Aside0 (code_Reader_End.f (enc n ++ l2) ((enc n).length : Int) 0 = some (ev, ((enc n).length : Int), ev)) ∧ ((l2.length : Int) == 0) = bz ∧ (ev == 0) = bz := by
      by_cases hz : l2.length = 0
      · rw [if_neg (by omega)] at hf3
        exact ⟨0, true, ⟨hf3⟩, by rw [hz]; rfl, rfl⟩
      · rw [if_pos ⟨by omega, rfl⟩] at hf3
        exact ⟨41, false, ⟨hf3⟩, beq_eq_false_iff_ne.mpr (by omega), rfl⟩
    clear hf3
    have HLR := Aside0.mk hlR
    have hcat : strOfNums L = strOfNums l0 ++ strOfNums (enc n) := by rw [hL]; exact str_append l0 (enc n)
    have bcat : ((strOfNums L).toList != (strOfNums l0 ++ strOfNums (enc n)).toList) = false := by rw [hcat]; exact bne_self_eq_false _
    have bcat2 : (strOfNums L).toList = (strOfNums l0 ++ strOfNums (enc n)).toList := by rw [hcat]
    have hsz := eq_false (show ¬ (9223372036854775807 < (strOfNums l0).size + (strOfNums (enc n)).size) by rw [str_size, str_size]; have := HL0.out; omega)
    replace hL := Aside0.mk hL
    clear hcat hn hlR h10 hp hlen hlen2 g0 g1 g2 hB2
    go_enter Try.func3, Try.ntmps3
    go_wp2_with fail
    refine (contralaw04_writes.calls k1 true _ H1.out).mono ?_; rintro e w1 ⟨rfl, hb⟩; have B1 := Aside0.mk (below_step HB.out hb); clear hb HB
    go_wp2_with (first | ((with_reducible refine gate_dst (N := 19) rfl ?_); refine Kd.R_lit (Kd.int .u8) _ 5 ?hg (N := 19) ?hd (xs := ([] : List Int)) (inner := []) (ok := fun _ => True) (okp := fun _ => True) ?hr ?hp (fun _ hk => hk) trivial (Below.refl _ _) (Nat.le_refl _) (by simp) ?_; (case hd => rfl); (case hg => rfl); (case hr => first | (go_simp; done) | (go_simp; rfl)); (case hp => exact (Reps.none _ _)); intro vA wA ho10 hb hg_ hnew_; clear hg_ hnew_; have BA := Aside0.mk (below_step B1.out hb); have OA := Aside0.mk (Kd.R_lower ho10 B1.out.size); clear hb ho10) | ((with_reducible refine gate_builtin (b := .append) (xs := #[.tmp 19, .tmp 20]) rfl ?_); at_builtin; refine Kd.R_append_rows (Kd.int .u8) (w0 := w) w.heap.size rfl (.tmp 19) (.tmp 20) 22 5 (.int .u8 0) 1 rfl Try.underlying22 info5 rfl (by decide) (by omega) (vA) ([]) (l0) _ _ _ (fun _ => True) (fun _ => False) rfl rfl ?aO ?aR (fun _ _ h => h) (fun _ h => h.elim) ?aF ?aB ?aS ?aL ?_; (case aR => exact (Kd.C_below HR0.out BA.out)); (case aB => exact BA.out); (case aF => exact (fun _ _ => trivial)); (case aO => exact OA.out); (case aS => exact (BA.out).size); (case aL => (have := HL0.out; simp only [List.length_nil]; omega)); intro vB wB ho hb hg hat; clear hg hat; rw [List.nil_append] at ho; have BB := Aside0.mk hb; have OB := Aside0.mk ho; clear ho hb))
    refine (code_Num.calls k2 (fun _ => True) vB l0 n _ w _ BB.out OB.out H2.out).mono ?_; rintro e w3 ⟨v3, rfl, ho, hb, hkp⟩; have B3 := Aside0.mk hb; obtain ⟨A3, c3, e3, hc3, hr3⟩ := Kd.R_reads ho; subst e3; have R3 := Aside0.mk hr3; have C3 := Aside0.mk hc3; clear ho hb hkp hr3 hc3
    obtain ⟨i0, hi0, _, hsz0, _⟩ := info_parts info5
    obtain ⟨A4, hcut_, hcr, hcl⟩ := print_cut_int (P := Try.prog) (k := .u8) 22 5 Try.underlying22 hi0 hsz0 A3 c3 L (l0.length : Int) (by omega) (by rw [hL.out, List.length_append]; omega) C3.out
    have hdrop := Aside0.mk (show L.drop ((l0.length : Int)).toNat = enc n by rw [hL.out, Int.toNat_natCast, List.drop_left])
    have hcut : ∀ (W : World), Sem.run Try.prog (Instr.slice 22 (Value.slice A3 L.length c3) (some (Value.int IntKind.i64 (l0.length : Int))) none none) W = Result.ok (Value.slice A4 (enc n).length (c3 - ((l0.length : Int)).toNat)) W := fun W => by
      have := hcut_ W
      rwa [hdrop.out] at this
    have hcr := Aside0.mk hcr
    clear hcut_ hcl hi0 hsz0
    go_wp2_with fail
--REG6
    refine start_ (n := 8) (S := fun w' => (convert 22 9 (.slice A3 L.length c3)).run Try.prog w' = .ok (.string (strOfNums L)) w' ∧ (convert 22 9 (.slice A0 l0.length c0)).run Try.prog w' = .ok (.string (strOfNums l0)) w') (ds := []) #[false, false, false, false, false, false, false, false] (by kernel_rfl) rfl rfl ⟨(Kd.C_string (P := Try.prog) (c := c3) Try.underlying22 Try.underlying5 Try.underlying9 (Kd.C_drew R3.out)), (Kd.C_string (P := Try.prog) (c := c0) Try.underlying22 Try.underlying5 Try.underlying9 (Kd.C_below HR0.out (below_step B3.out (below_drew (Below.refl _ _)))))⟩ (fun hHeld => ?_)
    refine pure_ (i := 0) (N := some 24) (v := ?_) (a' := ?_) #[true, false, false, false, false, false, false, false] rfl rfl (by kernel_rfl) (fun _ _ _ h => h) (Or.inl ⟨by rfl, ?_⟩) ?_ ?_
    rotate_left
    · intro w'
      go_simp
      with_reducible rfl
    rotate_left
    · simp only [Act.put, List.setIfInBounds_toArray, List.set_cons_zero, List.set_cons_succ, i64_w, i32_w]
      rfl
    refine pure_ (i := 2) (N := some 26) (v := ?_) (a' := ?_) #[true, false, true, false, false, false, false, false] rfl rfl (by kernel_rfl) (fun _ _ _ h => h) (Or.inl ⟨by rfl, ?_⟩) ?_ ?_
    rotate_left
    · intro w'
      go_simp
      with_reducible rfl
    rotate_left
    · simp only [Act.put, List.setIfInBounds_toArray, List.set_cons_zero, List.set_cons_succ, i64_w, i32_w]
      rfl
    refine pure_ (i := 4) (N := some 28) (v := ?_) (a' := ?_) #[true, false, true, false, true, false, false, false] rfl rfl (by kernel_rfl) (fun _ _ _ h => h) (Or.inl ⟨by rfl, ?_⟩) ?_ ?_
    rotate_left
    · intro w'
      go_simp
      with_reducible rfl
    rotate_left
    · simp only [Act.put, List.setIfInBounds_toArray, List.set_cons_zero, List.set_cons_succ, i64_w, i32_w]
      rfl
    refine take_ (i := 1) (N := some 25) (v := ?_) (a' := ?_) #[true, true, true, false, true, false, false, false] rfl rfl (by kernel_rfl) (fun _ _ _ h => h) (Or.inl ⟨by rfl, ?_⟩) hHeld ?_ ?_
    rotate_left
    · rintro w' ⟨s0, s1⟩
      go_simp
      with_reducible rfl
    rotate_left
    · simp only [Act.put, List.setIfInBounds_toArray, List.set_cons_zero, List.set_cons_succ, i64_w, i32_w]
      rfl
    refine take_ (i := 3) (N := some 27) (v := ?_) (a' := ?_) #[true, true, true, true, true, false, false, false] rfl rfl (by kernel_rfl) (fun _ _ _ h => h) (Or.inl ⟨by rfl, ?_⟩) hHeld ?_ ?_
    rotate_left
    · rintro w' ⟨s0, s1⟩
      go_simp
      with_reducible rfl
    rotate_left
    · simp only [Act.put, List.setIfInBounds_toArray, List.set_cons_zero, List.set_cons_succ, i64_w, i32_w]
      rfl
    refine one_ (i := 5) (N := some 29) #[true, true, true, true, true, true, false, false] rfl rfl (by kernel_rfl) (by decide) (fun K hK => ?_)
    refine goes_ Try.func12 (by kernel_rfl) rfl #[.int .i64 n] (by rfl) rfl rfl (by simp only [List.map_toArray, List.map_cons, List.map_nil]; rfl) ?_
    with_reducible refine (contraref04_Num.calls k5 n _ w3.drew H5.out).mono ?_
    rintro e w4 ⟨rfl, hb⟩
    refine ⟨_, rfl, ?_⟩
    have D4 := Aside0.mk hb
    have B4 := Aside0.mk (below_step (below_step B3.out (below_drew (Below.refl _ _))) hb)
    clear hb
    refine hK.out _ _ ⟨(Kd.C_string (P := Try.prog) (c := c3) Try.underlying22 Try.underlying5 Try.underlying9 (Kd.C_below (Kd.C_drew R3.out) D4.out)), (Kd.C_string (P := Try.prog) (c := c0) Try.underlying22 Try.underlying5 Try.underlying9 (Kd.C_below HR0.out (B4.out)))⟩ (fun hHeld => ?_)
    clear hK K
    refine norm_ (a' := ?_) ?_ ?_
    rotate_left
    · show Act.put _ (some 29) _ = _
      simp only [Act.put, List.setIfInBounds_toArray, List.set_cons_zero, List.set_cons_succ, i64_w, i32_w]
      rfl
    refine pure_ (i := 6) (N := some 30) (v := ?_) (a' := ?_) #[true, true, true, true, true, true, true, false] rfl rfl (by kernel_rfl) (fun _ _ _ h => h) (Or.inl ⟨by rfl, ?_⟩) ?_ ?_
    rotate_left
    · intro w'
      go_simp
      with_reducible rfl
    rotate_left
    · simp only [Act.put, List.setIfInBounds_toArray, List.set_cons_zero, List.set_cons_succ, i64_w, i32_w]
      rfl
    refine pure_ (i := 7) (N := some 31) (v := ?_) (a' := ?_) #[true, true, true, true, true, true, true, true] rfl rfl (by kernel_rfl) (fun _ _ _ h => h) (Or.inl ⟨by rfl, ?_⟩) ?_ ?_
    rotate_left
    · intro w'
      go_simp
      with_reducible rfl
    rotate_left
    · simp only [Act.put, List.setIfInBounds_toArray, List.set_cons_zero, List.set_cons_succ, i64_w, i32_w]
      rfl
    refine done_ (by kernel_rfl) ?_
--END6
    go_wp2_with (first | ((with_reducible refine gate_dst (N := 32) rfl ?_); refine Kd.R_lit (Kd.int .u8) _ 5 ?hg (N := 32) ?hd (xs := ([] : List Int)) (inner := []) (ok := fun _ => True) (okp := fun _ => True) ?hr ?hp (fun _ hk => hk) trivial (Below.refl _ _) (Nat.le_refl _) (by simp) ?_; (case hd => rfl); (case hg => rfl); (case hr => first | (go_simp; done) | (go_simp; rfl)); (case hp => exact (Reps.none _ _)); intro vC wC ho10 hb hg_ hnew_; clear hg_ hnew_; have BC := Aside0.mk (below_step B4.out hb); have OC := Aside0.mk (Kd.R_lower ho10 B4.out.size); have RC := Aside0.mk (Kd.C_below (Kd.C_below (Kd.C_drew R3.out) D4.out) hb); clear hb ho10) | ((with_reducible refine gate_builtin (b := .append) (xs := #[.tmp 32, .tmp 36]) rfl ?_); at_builtin; refine Kd.R_append_rows (Kd.int .u8) (w0 := w) w.heap.size rfl (.tmp 32) (.tmp 36) 22 5 (.int .u8 0) 1 rfl Try.underlying22 info5 rfl (by decide) (by omega) (vC) ([]) (enc n) _ _ _ (fun _ => True) (fun _ => False) rfl rfl ?aO ?aR (fun _ _ h => h) (fun _ h => h.elim) ?aF ?aB ?aS ?aL ?_; (case aR => exact (by have := Kd.C_of_reads (h1 := fun _ => rfl) (hcr.out _ (Kd.reads_of_C RC.out)); rw [hdrop.out] at this; exact this)); (case aB => exact BC.out); (case aF => exact (fun _ _ => trivial)); (case aO => exact OC.out); (case aS => exact (BC.out).size); (case aL => (have := HE10.out; simp only [List.length_nil]; omega)); intro vD wD ho hb hg hat; clear hg hat; rw [List.nil_append] at ho; have BD := Aside0.mk hb; have OD := Aside0.mk ho; clear ho hb) | ((with_reducible refine gate_builtin (b := .append) (xs := #[.tmp 37, .tmp 38]) rfl ?_); at_builtin; refine Kd.R_append_rows (Kd.int .u8) (w0 := w) w.heap.size rfl (.tmp 37) (.tmp 38) 22 5 (.int .u8 0) 1 rfl Try.underlying22 info5 rfl (by decide) (by omega) (vD) (enc n) (l2) _ _ _ (fun _ => True) (fun _ => False) rfl rfl ?aO ?aR (fun _ _ h => h) (fun _ h => h.elim) ?aF ?aB ?aS ?aL ?_; (case aR => exact (Kd.C_below HR2.out BD.out)); (case aB => exact BD.out); (case aF => exact (fun _ _ => trivial)); (case aO => exact OD.out); (case aS => exact (BD.out).size); (case aL => (have := HE10.out; have := HL2.out; omega)); intro vE wE ho hb hg hat; clear hg hat; have BE := Aside0.mk hb; obtain ⟨AE, cE, eE, hcE, hrE⟩ := Kd.R_reads ho; subst eE; have RE := Aside0.mk hrE; have CE := Aside0.mk hcE; clear hrE hcE; clear ho hb))
    refine (code_Read.callsm HLR.out.symm RE.out CE.out (by have := HLR.out; have := HE10.out; have := HL2.out; omega)).mono ?_; rintro e w5 ⟨g, rfl, hg, hR, hb⟩; have B5 := Aside0.mk (below_step BE.out hb); have R5 := Aside0.mk hR; have G5 := Aside0.mk (Nat.le_trans BE.out.size hg); clear hg hR hb
    go_wp2_with fail
    refine (rd_Num R5.out H3.out).mono ?_; rintro e w6 ⟨rfl, hR, hb, hk⟩; have B6 := Aside0.mk (B5.out.trans (hb.mono G5.out)); have R6 := Aside0.mk hR; clear hR hb hk
    go_wp2_with fail
    refine (rd_Err R6.out HF1.out).mono ?_; rintro e w7 ⟨rfl, hR, hb, hk⟩; have B7 := Aside0.mk (B6.out.trans (hb.mono G5.out)); have R7 := Aside0.mk hR; clear hR hb hk
    go_wp2_with fail
    refine (rd_Left R7.out HF2.out).mono ?_; rintro e w8 ⟨rfl, hR, hb, hk⟩; have B8 := Aside0.mk (B7.out.trans (hb.mono G5.out)); have R8 := Aside0.mk hR; clear hR hb hk
    go_wp2_with fail
    refine (rd_End R8.out HF3.out).mono ?_; rintro e w9 ⟨rfl, hR, hb, hk⟩; have B9 := Aside0.mk (B8.out.trans (hb.mono G5.out)); clear hR hb hk
    go_wp2_with fail
    go_ret
    exact ⟨rfl, B9.out⟩
end Go.Proofs.Ytpbchkgahjafeaa.Pure
