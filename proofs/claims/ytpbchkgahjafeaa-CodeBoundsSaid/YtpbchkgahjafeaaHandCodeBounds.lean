/-
  CodeBounds, walked by hand: a number is read from one to another, and no other.
-/
import Derived.Test.YtpbchkgahjafeaaOReader
import Derived.Test.YtpbchkgahjafeaaPCode2
namespace Go.Proofs.Ytpbchkgahjafeaa.Pure
open Go.RowKit Go.Proofs.Ytpbchkgahjafeaa.M Go.Proofs.YtpbchkgahjafeaaW.PrintWords Go.Proofs.YtpbchkgahjafeaaW.PrintLast Go.Proofs.YtpbchkgahjafeaaW.PrintMore Go.Proofs.Ytpbchkgahjafeaa.Pure.Code
set_option linter.unusedVariables false
set_option linter.unusedSimpArgs false
set_option maxHeartbeats 4000000 in
set_option maxRecDepth 100000 in
theorem CodeBounds_hand (n lo hi : Int) (w : World) (g0 : (Lit.int .i64 n).wf = true) (g1 : (Lit.int .i64 lo).wf = true) (g2 : (Lit.int .i64 hi).wf = true) :
    Calls Try.prog 5 #[.int .i64 n, .int .i64 lo, .int .i64 hi] w fun e w' => e = .returned (.bool true) ∧ Below w.heap.size w w' := by
  have hn := wf_i64 g0
  have hl := enc_len hn
  obtain ⟨k1, h1⟩ := writes_ev.rounds
  obtain ⟨k2, h2⟩ := (num_ev [] n hn (by simp)).rounds
  rw [List.nil_append] at h2
  obtain ⟨k3, h3⟩ := (rd_int_ev (l := enc n) (by omega) (enc_bytes n) (a := 0) (Nat.zero_le _) lo hi).rounds
  have e0 : rdNum (enc n) 0 = (n, (enc n).length, 0) := by
    have := rdNum_enc hn (enc n) [] 0 (by simp)
    rwa [Nat.zero_add] at this
  have H1 := Aside0.mk h1; clear h1
  have H2 := Aside0.mk h2; clear h2
  have HB := Aside0.mk (Below.refl w.heap.size w)
  by_cases hr : inRange n lo hi
  · have e1 : rdInt (enc n) 0 lo hi = (n, (enc n).length, 0) := by unfold rdInt; rw [e0]; simp [hr]
    rw [e1] at h3
    dsimp only at h3
    rw [show ((0 : Nat) : Int) = 0 from rfl] at h3
    have H3 := Aside0.mk h3; clear h3 e0 e1
    have c1 : decide (n < lo) = false := decide_eq_false (by unfold inRange at hr; omega)
    have c2 : decide (hi < n) = false := decide_eq_false (by unfold inRange at hr; omega)
    have c3 : decide (n > hi) = false := c2
    have HE := Aside0.mk (end_f (enc n) (enc n).length 0 (Nat.le_refl _) (by omega))
    have HL := Aside0.mk (show (enc n).length < 140737488355328 by omega)
    clear hn hl hr g0 g1 g2
    go_enter Try.func5, Try.ntmps5
    go_wp2_with (first | (go_at_call 10; refine (contralaw04_writes.calls k1 true _ H1.out).mono ?_; rintro e w1 ⟨rfl, hb⟩; have B1 := Aside0.mk (below_step HB.out hb); clear hb) | (go_at_call 11; refine (code_Num.calls k2 (fun _ => False) (.slice none 0 0) [] n (enc n) w _ (by repeat (first | exact B1.out | apply below_alloc | apply pw_below_drewN | apply below_drew1)) (Kd.R_nil _ _ _ _ _) H2.out).mono ?_; rintro e w2 ⟨v2, rfl, ho, hb, hkp⟩; have B2 := Aside0.mk hb; obtain ⟨Ao, co, eo, hco, hro⟩ := Kd.R_reads ho; subst eo; have R2 := Aside0.mk hro; have C2 := Aside0.mk hco; clear ho hb hkp hro hco) | (go_at_call 13; refine (code_Read.calls Ao co (enc n) _ R2.out C2.out HL.out).mono ?_; rintro e w3 ⟨g, rfl, hg, hR, hb⟩; have B3 := Aside0.mk (below_step B2.out hb); have R3 := Aside0.mk hR; have G3 := Aside0.mk (Nat.le_trans B2.out.size hg); clear hg hR hb) | (go_at_call 18; refine (rd_Int lo hi R3.out H3.out).mono ?_; rintro e w4 ⟨rfl, hR, hb, hk⟩; have B4 := Aside0.mk (B3.out.trans (hb.mono G3.out)); have R4 := Aside0.mk hR; clear hR hb hk) | (go_at_call 17; refine (rd_End R4.out HE.out).mono ?_; rintro e w5 ⟨rfl, hR, hb, hk⟩; have B5 := Aside0.mk (B4.out.trans (hb.mono G3.out)); clear hR hb hk) | (go_at_call 15; refine (rd_Err R4.out HF.out).mono ?_; rintro e w5 ⟨rfl, hR, hb, hk⟩; have B5 := Aside0.mk (B4.out.trans (hb.mono G3.out)); clear hR hb hk))
    go_ret
    exact ⟨rfl, B5.out⟩
  · have e1 : rdInt (enc n) 0 lo hi = (0, (enc n).length, 1) := by unfold rdInt; rw [e0]; simp [hr]
    rw [e1] at h3
    dsimp only at h3
    rw [show ((0 : Nat) : Int) = 0 from rfl] at h3
    have H3 := Aside0.mk h3; clear h3 e0 e1
    have HF := Aside0.mk (show code_Reader_Err.f (enc n) ((enc n).length : Int) 1 = some (1, ((enc n).length : Int), 1) from rfl)
    have HL := Aside0.mk (show (enc n).length < 140737488355328 by omega)
    by_cases hlo : n < lo
    · have c1 : decide (n < lo) = true := decide_eq_true hlo
      clear hn hl hr g0 g1 g2 hlo
      go_enter Try.func5, Try.ntmps5
      go_wp2_with (first | (go_at_call 10; refine (contralaw04_writes.calls k1 true _ H1.out).mono ?_; rintro e w1 ⟨rfl, hb⟩; have B1 := Aside0.mk (below_step HB.out hb); clear hb) | (go_at_call 11; refine (code_Num.calls k2 (fun _ => False) (.slice none 0 0) [] n (enc n) w _ (by repeat (first | exact B1.out | apply below_alloc | apply pw_below_drewN | apply below_drew1)) (Kd.R_nil _ _ _ _ _) H2.out).mono ?_; rintro e w2 ⟨v2, rfl, ho, hb, hkp⟩; have B2 := Aside0.mk hb; obtain ⟨Ao, co, eo, hco, hro⟩ := Kd.R_reads ho; subst eo; have R2 := Aside0.mk hro; have C2 := Aside0.mk hco; clear ho hb hkp hro hco) | (go_at_call 13; refine (code_Read.calls Ao co (enc n) _ R2.out C2.out HL.out).mono ?_; rintro e w3 ⟨g, rfl, hg, hR, hb⟩; have B3 := Aside0.mk (below_step B2.out hb); have R3 := Aside0.mk hR; have G3 := Aside0.mk (Nat.le_trans B2.out.size hg); clear hg hR hb) | (go_at_call 18; refine (rd_Int lo hi R3.out H3.out).mono ?_; rintro e w4 ⟨rfl, hR, hb, hk⟩; have B4 := Aside0.mk (B3.out.trans (hb.mono G3.out)); have R4 := Aside0.mk hR; clear hR hb hk) | (go_at_call 17; refine (rd_End R4.out HE.out).mono ?_; rintro e w5 ⟨rfl, hR, hb, hk⟩; have B5 := Aside0.mk (B4.out.trans (hb.mono G3.out)); clear hR hb hk) | (go_at_call 15; refine (rd_Err R4.out HF.out).mono ?_; rintro e w5 ⟨rfl, hR, hb, hk⟩; have B5 := Aside0.mk (B4.out.trans (hb.mono G3.out)); clear hR hb hk))
      go_ret
      exact ⟨rfl, B5.out⟩
    · have c1 : decide (n < lo) = false := decide_eq_false hlo
      have c2 : decide (hi < n) = true := decide_eq_true (by unfold inRange at hr; omega)
      have c3 : decide (n > hi) = true := c2
      clear hn hl hr g0 g1 g2 hlo
      go_enter Try.func5, Try.ntmps5
      go_wp2_with (first | (go_at_call 10; refine (contralaw04_writes.calls k1 true _ H1.out).mono ?_; rintro e w1 ⟨rfl, hb⟩; have B1 := Aside0.mk (below_step HB.out hb); clear hb) | (go_at_call 11; refine (code_Num.calls k2 (fun _ => False) (.slice none 0 0) [] n (enc n) w _ (by repeat (first | exact B1.out | apply below_alloc | apply pw_below_drewN | apply below_drew1)) (Kd.R_nil _ _ _ _ _) H2.out).mono ?_; rintro e w2 ⟨v2, rfl, ho, hb, hkp⟩; have B2 := Aside0.mk hb; obtain ⟨Ao, co, eo, hco, hro⟩ := Kd.R_reads ho; subst eo; have R2 := Aside0.mk hro; have C2 := Aside0.mk hco; clear ho hb hkp hro hco) | (go_at_call 13; refine (code_Read.calls Ao co (enc n) _ R2.out C2.out HL.out).mono ?_; rintro e w3 ⟨g, rfl, hg, hR, hb⟩; have B3 := Aside0.mk (below_step B2.out hb); have R3 := Aside0.mk hR; have G3 := Aside0.mk (Nat.le_trans B2.out.size hg); clear hg hR hb) | (go_at_call 18; refine (rd_Int lo hi R3.out H3.out).mono ?_; rintro e w4 ⟨rfl, hR, hb, hk⟩; have B4 := Aside0.mk (B3.out.trans (hb.mono G3.out)); have R4 := Aside0.mk hR; clear hR hb hk) | (go_at_call 17; refine (rd_End R4.out HE.out).mono ?_; rintro e w5 ⟨rfl, hR, hb, hk⟩; have B5 := Aside0.mk (B4.out.trans (hb.mono G3.out)); clear hR hb hk) | (go_at_call 15; refine (rd_Err R4.out HF.out).mono ?_; rintro e w5 ⟨rfl, hR, hb, hk⟩; have B5 := Aside0.mk (B4.out.trans (hb.mono G3.out)); clear hR hb hk))
      go_ret
      exact ⟨rfl, B5.out⟩
end Go.Proofs.Ytpbchkgahjafeaa.Pure
