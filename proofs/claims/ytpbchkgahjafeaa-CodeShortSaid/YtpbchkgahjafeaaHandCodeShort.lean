/-
  CodeShort, walked by hand: a number or a list of which the last byte is missing is told to be too short; one byte more is told at the end.
-/
import Derived.Test.YtpbchkgahjafeaaOBytes
import Derived.Test.YtpbchkgahjafeaaPCode3
namespace Go.Proofs.Ytpbchkgahjafeaa.Pure
open Go.RowKit Go.Proofs.Ytpbchkgahjafeaa.M Go.Proofs.YtpbchkgahjafeaaW.PrintWords Go.Proofs.YtpbchkgahjafeaaW.PrintLast Go.Proofs.YtpbchkgahjafeaaW.PrintMore Go.Proofs.Ytpbchkgahjafeaa.Pure.Code Go.Proofs.Ytpbchkgahjafeaa.Pure.Bits
set_option linter.unusedVariables false
set_option linter.unusedSimpArgs false
theorem C_lt {w : World} {A : Option Addr} {l : List Int} (h : Kd.C (Kd.int .u8) w A l.length l) {ad : Addr} (hA : A = some ad) (hn : 0 < l.length) : ad.block < w.heap.size := by
  obtain ⟨_, _, h3⟩ := h
  obtain ⟨a2, hA2, hc⟩ := h3 hn
  rw [hA] at hA2
  obtain rfl : ad = a2 := by injection hA2
  obtain ⟨c2, hl2, hR, hcell⟩ := hc 0 (l[0]'hn) (by simp)
  obtain rfl : c2 = [.int .u8 (l[0]'hn)] := hR
  have := World.block_lt_of_cell? _ _ (hcell 0 _ rfl)
  rwa [add_block] at this
theorem bytes_cut {lo : Nat} {w : World} {g : Nat} {l : List Int} {m : Nat} (hl : l.length ≤ 500) (hm : m = (enc (l.length : Int)).length + l.length - 1) (hb : Bytes l) (h : IsR lo w g ((enc (l.length : Int) ++ l).take m) 0 0) :
    Calls Try.prog 20 #[.pointer (some ⟨g, 0, none⟩)] w fun x w' => ∃ a : Nat, x = .returned (.slice none 0 0) ∧ IsR 0 w' g ((enc (l.length : Int) ++ l).take m) a 40 ∧ Below g w w' ∧ KeepBut w w' g none := by
  have hi : I64 (l.length : Int) := by unfold I64; omega
  have hp := enc_pos (l.length : Int)
  have h10 := enc_len hi
  have hbb : Bytes ((enc (l.length : Int) ++ l).take m) := fun x hx => by
    rcases List.mem_append.mp (List.mem_of_mem_take hx) with q | q
    · exact enc_bytes _ x q
    · exact hb x q
  have hlen : ((enc (l.length : Int) ++ l).take m).length = m := by rw [List.length_take, List.length_append]; omega
  obtain ⟨k, hk⟩ := (rd_int_ev (l := (enc (l.length : Int) ++ l).take m) (by omega) hbb (a := 0) (Nat.zero_le _) 0 16384).rounds
  by_cases h0 : l.length = 0
  · obtain rfl := List.eq_nil_of_length_eq_zero h0
    have e1 : enc ((([] : List Int).length : Nat) : Int) = [0] := by decide +kernel
    have e2 : rdInt ((enc ((([] : List Int).length : Nat) : Int) ++ []).take m) 0 0 16384 = (0, 0, 40) := by
      rw [hm, e1]; decide +kernel
    rw [e2] at hk
    exact (rd_Bytes_err h hk (by decide)).mono fun x w' ⟨h1, h2, h3, h4⟩ => ⟨0, h1, h2, h3, h4⟩
  · have e1 : rdNum ((enc (l.length : Int) ++ l).take m) 0 = ((l.length : Int), (enc (l.length : Int)).length, 0) := by
      have := rdNum_enc hi ((enc (l.length : Int) ++ l).take m) (l.take (m - (enc (l.length : Int)).length)) 0 (by rw [List.drop_zero, List.take_append, List.take_of_length_le (by omega)])
      rwa [Nat.zero_add] at this
    have e2 : rdInt ((enc (l.length : Int) ++ l).take m) 0 0 16384 = ((l.length : Int), (enc (l.length : Int)).length, 0) := by
      unfold rdInt; rw [e1]; simp only; rw [if_pos trivial, if_pos (by unfold inRange; omega)]
    rw [e2] at hk
    dsimp only at hk
    exact (rd_Bytes_short h hk (by omega) (by omega) (by omega)).mono fun x w' ⟨h1, h2, h3, h4⟩ => ⟨_, h1, h2, h3, h4⟩
set_option maxHeartbeats 4000000 in
set_option maxRecDepth 100000 in
theorem CodeShort_hand (n : Int) (A1 : Option Addr) (c1 : Nat) (l : List Int) (w : World) (hr : Kd.C (Kd.int .u8) w A1 l.length l) (hc : l.length ≤ c1) (g0 : (Lit.int .i64 n).wf = true) (g1 : l.length * 1 ≤ 140737488351232 ∧ ∀ x ∈ l, (Lit.int .u8 x).wf = true) :
    Calls Try.prog 8 #[.int .i64 n, .slice A1 l.length c1] w fun e w' => e = .returned (.bool true) ∧ Below w.heap.size w w' := by
  have hn := wf_i64 g0
  have hl := enc_len hn
  have hp := enc_pos n
  obtain ⟨k1, h1⟩ := writes_ev.rounds
  have HB := Aside0.mk (Below.refl w.heap.size w)
  have H1 := Aside0.mk h1; clear h1
  have HR := Aside0.mk hr; have HC := Aside0.mk hc; clear hr hc
  by_cases hlen : l.length > 500
  · have c0 : decide (500 < (l.length : Int)) = true := decide_eq_true (by omega)
    have c0' : decide (500 < l.length) = true := decide_eq_true (by omega)
    clear hn hl hp g0 g1
    go_enter Try.func8, Try.ntmps8
    go_wp2_with (first | (go_at_call 10; refine (contralaw04_writes.calls k1 true _ H1.out).mono ?_; rintro e w1 ⟨rfl, hb⟩; have B1 := Aside0.mk (below_step HB.out hb); clear hb))
    go_ret
    exact ⟨rfl, B1.out⟩
  · have c0 : decide (500 < (l.length : Int)) = false := decide_eq_false (by omega)
    have c0' : decide (500 < l.length) = false := decide_eq_false (by omega)
    obtain ⟨k2, h2⟩ := (num_ev [] n hn (by simp)).rounds
    rw [List.nil_append] at h2
    have H2 := Aside0.mk h2; clear h2
    have hb : Bytes l := fun x hx => by have := g1.2 x hx; simp [Lit.wf, IntKind.min, IntKind.max, IntKind.signed, IntKind.bits] at this; omega
    have BB := Aside0.mk hb; clear hb
    have hi : I64 (l.length : Int) := by unfold I64; omega
    have hp7 := enc_pos (l.length : Int)
    have h10 := enc_len hi
    obtain ⟨L, hL⟩ : ∃ L, L = enc (l.length : Int) ++ l := ⟨_, rfl⟩
    have hL7 : L.length = (enc (l.length : Int)).length + l.length := by rw [hL]; exact List.length_append
    replace hL7 := Aside0.mk hL7
    obtain ⟨k4, h4⟩ := (bytes_ev [] l (by simp; omega)).rounds
    rw [List.nil_append, ← hL] at h4
    have H4 := Aside0.mk h4; clear h4
    have E13 := Aside0.mk (show L.length + 1 = (L ++ [0]).length by rw [List.length_append]; rfl)
    have hL13 := Aside0.mk (show (L ++ [0]).length = (enc (l.length : Int)).length + l.length + 1 by rw [List.length_append, hL7.out]; rfl)
    have hLb : Bytes (L ++ [0]) := fun x hx => by
      rw [hL] at hx
      rcases List.mem_append.mp hx with q | q
      · rcases List.mem_append.mp q with q | q
        · exact enc_bytes _ x q
        · exact BB.out x q
      · rw [List.mem_singleton.mp q]; omega
    obtain ⟨k5, h5⟩ := (rd_int_ev (l := L ++ [0]) (by have := hL13.out; omega) hLb (a := 0) (Nat.zero_le _) 0 16384).rounds
    have e5 : rdNum (L ++ [0]) 0 = ((l.length : Int), (enc (l.length : Int)).length, 0) := by
      have := rdNum_enc hi (L ++ [0]) (l ++ [0]) 0 (by rw [List.drop_zero, hL, List.append_assoc])
      rwa [Nat.zero_add] at this
    have e6 : rdInt (L ++ [0]) 0 0 16384 = ((l.length : Int), (enc (l.length : Int)).length, 0) := by
      unfold rdInt; rw [e5]; simp only; rw [if_pos trivial, if_pos (by unfold inRange; omega)]
    rw [e6] at h5
    have H5 := Aside0.mk h5; clear h5 e5 e6 hLb
    have HL5 := Aside0.mk (show ((L ++ [0]).drop (enc (l.length : Int)).length).take ((l.length : Int)).toNat = l by rw [hL, List.append_assoc, List.drop_left, Int.toNat_natCast, List.take_left])
    have hp13 : ((enc (l.length : Int)).length : Int) + (l.length : Int) = ((L.length : Nat) : Int) := by rw [hL7.out]; omega
    have hle13 : L.length ≤ (L ++ [0]).length := by rw [hL13.out, hL7.out]; omega
    have hlt13 : L.length < (L ++ [0]).length := by rw [hL13.out, hL7.out]; omega
    have HE1 := Aside0.mk (show code_Reader_Err.f (L ++ [0]) (((enc (l.length : Int)).length : Int) + (l.length : Int)) 0 = some (0, ((enc (l.length : Int)).length : Int) + (l.length : Int), 0) from rfl)
    have HE2 := Aside0.mk (show code_Reader_Left.f (L ++ [0]) (((enc (l.length : Int)).length : Int) + (l.length : Int)) 0 = some (1, ((enc (l.length : Int)).length : Int) + (l.length : Int), 0) by
      have e_ : (L ++ [0]).length - L.length = 1 := (by rw [hL13.out, hL7.out]; omega)
      rw [hp13, left_f _ _ _ hle13 (by have := hL13.out; omega), e_]; rfl)
    have HE3 := Aside0.mk (show code_Reader_End.f (L ++ [0]) (((enc (l.length : Int)).length : Int) + (l.length : Int)) 0 = some (41, ((enc (l.length : Int)).length : Int) + (l.length : Int), 41) by
      rw [hp13, end_f _ _ _ hle13 (by have := hL13.out; omega), if_pos ⟨hlt13, rfl⟩])
    have HE4 := Aside0.mk (show code_Reader_Err.f (L ++ [0]) (((enc (l.length : Int)).length : Int) + (l.length : Int)) 41 = some (41, ((enc (l.length : Int)).length : Int) + (l.length : Int), 41) from rfl)
    have HE5 := Aside0.mk (show code_Reader_Bool.f (L ++ [0]) (((enc (l.length : Int)).length : Int) + (l.length : Int)) 41 = some (false, ((enc (l.length : Int)).length : Int) + (l.length : Int), 41) from rfl)
    clear hp13 hle13 hlt13
    replace hL := Aside0.mk hL
    go_enter Try.func8, Try.ntmps8
    go_wp2_with fail
    refine (contralaw04_writes.calls k1 true _ H1.out).mono ?_; rintro e w1 ⟨rfl, hb⟩; have B1 := Aside0.mk (below_step HB.out hb); clear hb HB
    go_wp2_with fail
    refine (code_Num.calls k2 (fun _ => False) (.slice none 0 0) [] n (enc n) w _ B1.out (Kd.R_nil _ _ _ _ _) H2.out).mono ?_; rintro e w2 ⟨v2, rfl, ho, hb, hkp⟩; have B2 := Aside0.mk hb; obtain ⟨Ao, co, eo, hco, hro⟩ := Kd.R_reads ho; subst eo; have R2 := Aside0.mk hro; have C2 := Aside0.mk hco; clear ho hb hkp hro hco
    obtain ⟨i0, hi0, _, hsz0, _⟩ := info_parts info5
    obtain ⟨hcut, hcr, hcl⟩ := print_take_int (P := Try.prog) (k := .u8) 22 5 Try.underlying22 hi0 hsz0 Ao co (enc n) (((enc n).length : Int) - 1) (by omega) (by omega) C2.out
    have b1 : wrap64 (((enc n).length : Int) - 1) = ((enc n).length : Int) - 1 := by unfold wrap64; omega
    have RC := Aside0.mk (Kd.C_of_reads (h1 := fun _ => rfl) (hcr _ (Kd.reads_of_C R2.out)))
    have HCL := Aside0.mk hcl
    clear hcr hcl
    go_wp2_with fail
    have e1 : (enc n).length - 1 = ((enc n).take (((enc n).length : Int) - 1).toNat).length := by rw [List.length_take]; omega
    have hd := scan_short (zig n) 0 0 ((enc n).length - 1) (by have := zig_lt n hn.1 hn.2; simpa using this) (fun h => absurd h (by omega)) (by unfold enc at hp; exact Nat.sub_lt hp (by omega))
    have e2 : rdNum ((enc n).take (((enc n).length : Int) - 1).toNat) 0 = (0, (enc n).length - 1, 40) := by
      unfold rdNum
      rw [List.drop_zero, show (((enc n).length : Int) - 1).toNat = (enc n).length - 1 by omega]
      unfold enc at hd ⊢
      rw [hd]
      simp only [Nat.zero_add, if_neg (show ¬ (40 : Int) = 0 by omega)]
    obtain ⟨k3, h3⟩ := (rd_num_ev (l := (enc n).take (((enc n).length : Int) - 1).toNat) (by omega) (fun x hx => enc_bytes n x (List.mem_of_mem_take hx)) (a := 0) (Nat.zero_le _)).rounds
    rw [e2] at h3
    have H3 := Aside0.mk h3; clear h3 e2 hd
    have HF1 := Aside0.mk (show code_Reader_Err.f ((enc n).take (((enc n).length : Int) - 1).toNat) (((enc n).length - 1 : Nat) : Int) 40 = some (40, (((enc n).length - 1 : Nat) : Int), 40) from rfl)
    have HF2 := end_f ((enc n).take (((enc n).length : Int) - 1).toNat) ((enc n).length - 1) 40 (by omega) (by omega)
    rw [if_neg (show ¬ ((enc n).length - 1 < ((enc n).take (((enc n).length : Int) - 1).toNat).length ∧ (40 : Int) = 0) by omega)] at HF2
    replace HF2 := Aside0.mk HF2
    refine (code_Read.callsm e1 RC.out HCL.out (by omega)).mono ?_; rintro e w3 ⟨g, rfl, hg, hR, hb⟩; have B3 := Aside0.mk (below_step B2.out hb); have R3 := Aside0.mk hR; have G3 := Aside0.mk (Nat.le_trans B2.out.size hg); clear hg hR hb e1
    go_wp2_with fail
    refine (rd_Num R3.out H3.out).mono ?_; rintro e w4 ⟨rfl, hR, hb, hk⟩; have B4 := Aside0.mk (B3.out.trans (hb.mono G3.out)); have R4 := Aside0.mk hR; clear hR hb hk
    go_wp2_with fail
    refine (rd_Err R4.out HF1.out).mono ?_; rintro e w5 ⟨rfl, hR, hb, hk⟩; have B5 := Aside0.mk (B4.out.trans (hb.mono G3.out)); have R5 := Aside0.mk hR; clear hR hb hk B4 R4
    go_wp2_with fail
    refine (rd_End R5.out HF2.out).mono ?_; rintro e w6 ⟨rfl, hR, hb, hk⟩; have B6 := Aside0.mk (B5.out.trans (hb.mono G3.out)); clear hR hb hk B5 R5
    go_wp2_with fail
    have CL := Aside0.mk (fun ad h1 h2 => C_lt (ad := ad) HR.out h1 h2)
    refine (code_Bytes.calls k4 (fun _ => False) (.slice none 0 0) [] A1 c1 l _ w _ B6.out (Kd.R_nil _ _ _ _ _) (fun W hk => C_move (Kd.C_below HR.out B6.out) (fun ad h1 h2 => hk.2 ad.block (Nat.lt_of_lt_of_le (CL.out ad h1 h2) B6.out.size) (fun q => q))) HC.out H4.out).mono ?_; rintro e w7 ⟨v7, rfl, ho, hb, hkp⟩; have B7 := Aside0.mk hb; obtain ⟨A7, c7, e7, hc7, hr7⟩ := Kd.R_reads ho; subst e7; have R7 := Aside0.mk hr7; have C7 := Aside0.mk hc7; have HO7 := Aside0.mk ho; clear ho hb hkp hr7 hc7
    obtain ⟨hcut2, hcr, hcl⟩ := print_take_int (P := Try.prog) (k := .u8) 22 5 Try.underlying22 hi0 hsz0 A7 c7 L ((L.length : Int) - 1) (by have := hL7.out; omega) (by omega) C7.out
    have b7 : wrap64 ((L.length : Int) - 1) = (L.length : Int) - 1 := by have := hL7.out; unfold wrap64; omega
    have RC7 := Aside0.mk (Kd.C_of_reads (h1 := fun _ => rfl) (hcr _ (Kd.reads_of_C R7.out)))
    have HCL7 := Aside0.mk hcl
    clear hcr hcl
    have E7 := Aside0.mk (show L.length - 1 = (L.take (((L.length : Int) - 1).toNat)).length by rw [List.length_take]; omega)
    go_wp2_with fail
    refine (code_Read.callsm E7.out RC7.out HCL7.out (by have := hL7.out; have := E7.out; omega)).mono ?_; rintro e w8 ⟨g8, rfl, hg, hR, hb⟩; have B8 := Aside0.mk (below_step B7.out hb); have D8 := Aside0.mk hb; have R8 := Aside0.mk hR; have G8 := Aside0.mk (Nat.le_trans B7.out.size hg); have F8 := Aside0.mk hg; clear hg hR hb
    go_wp2_with fail
    refine (bytes_cut (w := w8) (l := l) (m := (((L.length : Int) - 1)).toNat) (by omega) (by have := hL7.out; omega) BB.out (by rw [← hL.out]; exact R8.out)).mono ?_; rintro e w9 ⟨a9, rfl, hR, hb, hk⟩; have B9 := Aside0.mk (B8.out.trans (hb.mono G8.out)); have R9 := Aside0.mk hR; have D9 := Aside0.mk (D8.out.trans (hb.mono F8.out)); clear hR hb hk
    go_wp2_with fail
    refine (rd_Err R9.out (show code_Reader_Err.f _ (a9 : Int) 40 = some (40, (a9 : Int), 40) from rfl)).mono ?_; rintro e w10 ⟨rfl, hR, hb, hk⟩; have B10 := Aside0.mk (B9.out.trans (hb.mono G8.out)); have D10 := Aside0.mk (D9.out.trans (hb.mono F8.out)); clear hR hb hk
    have HO10 := Aside0.mk (Kd.R_mono (ok' := fun _ => True) (Kd.R_below HO7.out D10.out) (fun _ _ => trivial))
    go_wp2_with (first | ((with_reducible refine gate_dst (N := 56) rfl ?_); refine Kd.R_lit (Kd.int .u8) _ 5 ?hg (N := 56) ?hd (xs := [0]) (inner := [.int .u8 0]) (ok := fun _ => True) (okp := fun _ => True) ?hr ?hp (fun _ hk => hk) trivial (Below.refl _ _) (Nat.le_refl _) (by simp) ?_; (case hd => rfl); (case hg => rfl); (case hr => first | (go_simp; done) | (go_simp; rfl)); (case hp => exact (Reps.one (show Kd.M (Kd.int .u8) _ _ _ 0 [.int .u8 0] from rfl) (Reps.none _ _))); intro v11 w11 ho11 hb hg_ hnew_; clear hg_ hnew_; obtain ⟨A11, c11, e11, hc11, hr11⟩ := Kd.R_reads ho11; subst e11; have R11 := Aside0.mk hr11; have B11 := Aside0.mk (below_step B10.out hb); have HO11 := Aside0.mk (Kd.R_below HO10.out hb); clear hb ho11 hc11 hr11) | ((with_reducible refine gate_builtin (b := .append) (xs := #[.tmp 55, .tmp 56]) rfl ?_); at_builtin; refine Kd.R_append_rows (Kd.int .u8) (w0 := w) w.heap.size rfl (.tmp 55) (.tmp 56) 22 5 (.int .u8 0) 1 rfl Try.underlying22 info5 rfl (by decide) (by omega) (.slice A7 L.length c7) L [0] _ _ _ (fun _ => True) (fun _ => False) rfl rfl ?aO ?aR (fun _ _ h => h) (fun _ h => h.elim) ?aF ?aB ?aS ?aL ?_; (case aR => exact R11.out); (case aB => exact B11.out); (case aF => exact (fun _ _ => trivial)); (case aO => exact HO11.out); (case aS => exact B11.out.size); (case aL => (have := hL7.out; simp only [List.length_cons, List.length_nil]; omega)); intro v12 w12 ho hb hg hat; clear hg hat; have B12 := Aside0.mk hb; obtain ⟨A12, c12, e12, hc12, hr12⟩ := Kd.R_reads ho; subst e12; have R12 := Aside0.mk hr12; have C12 := Aside0.mk hc12; clear ho hb hr12 hc12))
    refine (code_Read.callsm (l0 := L ++ [0]) E13.out R12.out C12.out (by have := hL13.out; have := hL7.out; omega)).mono ?_; rintro e w13 ⟨g13, rfl, hg, hR, hb⟩; have B13 := Aside0.mk (below_step B12.out hb); have R13 := Aside0.mk hR; have G13 := Aside0.mk (Nat.le_trans B12.out.size hg); clear hg hR hb
    go_wp2_with fail
--REG15
    refine start_ (n := 32) (S := fun w' => (convert 22 9 (.slice A1 l.length c1)).run Try.prog w' = .ok (.string (strOfNums l)) w') (ds := []) #[false, false, false, false, false, false, false, false, false, false, false, false, false, false, false, false, false, false, false, false, false, false, false, false, false, false, false, false, false, false, false, false] (by kernel_rfl) rfl rfl ((Kd.C_string (P := Try.prog) Try.underlying22 Try.underlying5 Try.underlying9 (Kd.C_drew (Kd.C_below HR.out B13.out)))) (fun hHeld => ?_)
    refine pure_ (i := 0) (N := some 59) (v := ?_) (a' := ?_) #[true, false, false, false, false, false, false, false, false, false, false, false, false, false, false, false, false, false, false, false, false, false, false, false, false, false, false, false, false, false, false, false] rfl rfl (by kernel_rfl) (fun _ _ _ h => h) (Or.inl ⟨by rfl, ?_⟩) ?_ ?_
    rotate_left
    · intro w'
      go_simp
      with_reducible rfl
    rotate_left
    · simp only [Act.put, List.setIfInBounds_toArray, List.set_cons_zero, List.set_cons_succ, i64_w, i32_w]
      rfl
    refine pure_ (i := 3) (N := some 62) (v := ?_) (a' := ?_) #[true, false, false, true, false, false, false, false, false, false, false, false, false, false, false, false, false, false, false, false, false, false, false, false, false, false, false, false, false, false, false, false] rfl rfl (by kernel_rfl) (fun _ _ _ h => h) (Or.inl ⟨by rfl, ?_⟩) ?_ ?_
    rotate_left
    · intro w'
      go_simp
      with_reducible rfl
    rotate_left
    · simp only [Act.put, List.setIfInBounds_toArray, List.set_cons_zero, List.set_cons_succ, i64_w, i32_w]
      rfl
    refine take_ (i := 4) (N := some 63) (v := ?_) (a' := ?_) #[true, false, false, true, true, false, false, false, false, false, false, false, false, false, false, false, false, false, false, false, false, false, false, false, false, false, false, false, false, false, false, false] rfl rfl (by kernel_rfl) (fun _ _ _ h => h) (Or.inl ⟨by rfl, ?_⟩) hHeld ?_ ?_
    rotate_left
    · intro w' s0
      go_simp
      with_reducible rfl
    rotate_left
    · simp only [Act.put, List.setIfInBounds_toArray, List.set_cons_zero, List.set_cons_succ, i64_w, i32_w]
      rfl
    refine one_ (i := 1) (N := some 60) #[true, true, false, true, true, false, false, false, false, false, false, false, false, false, false, false, false, false, false, false, false, false, false, false, false, false, false, false, false, false, false, false] rfl rfl (by kernel_rfl) (by decide) (fun K hK => ?_)
    refine goes_ Try.func20 (by kernel_rfl) rfl #[.pointer (some ⟨g13, 0, none⟩)] (by rfl) rfl rfl (by simp only [List.map_toArray, List.map_cons, List.map_nil]; rfl) ?_
    with_reducible refine (rd_Bytes_ok (lo := w12.heap.size) (w := w13.drew) (R13.out.below (below_drew (Below.refl _ _))) H5.out (by omega) (by have := hL13.out; omega) (by have := hL13.out; omega)).mono ?_
    rintro x w14 ⟨v14, rfl, ho, hR, hb, hk⟩
    refine ⟨_, rfl, ?_⟩
    have B14 := Aside0.mk ((below_step B13.out (below_drew (Below.refl _ _))).trans (hb.mono G13.out))
    have R14 := Aside0.mk hR
    rw [HL5.out] at ho
    have hcv := own_string (P := Try.prog) Try.underlying22 Try.underlying5 Try.underlying9 (Kd.own_of_R ho)
    clear hR hb hk ho
    refine hK.out _ _ ((Kd.C_string (P := Try.prog) Try.underlying22 Try.underlying5 Try.underlying9 (Kd.C_below HR.out B14.out))) (fun hHeld => ?_)
    clear hK K
    refine norm_ (a' := ?_) ?_ ?_
    rotate_left
    · show Act.put _ (some 60) _ = _
      simp only [Act.put, List.setIfInBounds_toArray, List.set_cons_zero, List.set_cons_succ, i64_w, i32_w]
      rfl
    refine one_ (i := 2) (N := some 61) #[true, true, true, true, true, false, false, false, false, false, false, false, false, false, false, false, false, false, false, false, false, false, false, false, false, false, false, false, false, false, false, false] rfl rfl (by kernel_rfl) (by decide) (fun K hK => ?_)
    refine value_ (w1 := ?_) (v := ?_) (by rfl) rfl ?_ ?_
    rotate_left 2
    · go_simp
      constructor
      · rfl
      · rfl
    clear hcv
    refine hK.out _ _ ((Kd.C_string (P := Try.prog) Try.underlying22 Try.underlying5 Try.underlying9 (Kd.C_below HR.out B14.out))) (fun hHeld => ?_)
    clear hK K
    refine norm_ (a' := ?_) ?_ ?_
    rotate_left
    · show Act.put _ (some 61) _ = _
      simp only [Act.put, List.setIfInBounds_toArray, List.set_cons_zero, List.set_cons_succ, i64_w, i32_w]
      rfl
    refine pure_ (i := 5) (N := some 64) (v := ?_) (a' := ?_) #[true, true, true, true, true, true, false, false, false, false, false, false, false, false, false, false, false, false, false, false, false, false, false, false, false, false, false, false, false, false, false, false] rfl rfl (by kernel_rfl) (fun _ _ _ h => h) (Or.inl ⟨by rfl, ?_⟩) ?_ ?_
    rotate_left
    · intro w'
      go_simp
      with_reducible rfl
    rotate_left
    · simp only [Act.put, List.setIfInBounds_toArray, List.set_cons_zero, List.set_cons_succ, i64_w, i32_w]
      rfl
    refine pure_ (i := 6) (N := some 65) (v := ?_) (a' := ?_) #[true, true, true, true, true, true, true, false, false, false, false, false, false, false, false, false, false, false, false, false, false, false, false, false, false, false, false, false, false, false, false, false] rfl rfl (by kernel_rfl) (fun _ _ _ h => h) (Or.inl ⟨by rfl, ?_⟩) ?_ ?_
    rotate_left
    · intro w'
      go_simp
      with_reducible rfl
    rotate_left
    · simp only [Act.put, List.setIfInBounds_toArray, List.set_cons_zero, List.set_cons_succ, i64_w, i32_w]
      rfl
    refine pure_ (i := 7) (N := some 66) (v := ?_) (a' := ?_) #[true, true, true, true, true, true, true, true, false, false, false, false, false, false, false, false, false, false, false, false, false, false, false, false, false, false, false, false, false, false, false, false] rfl rfl (by kernel_rfl) (fun _ _ _ h => h) (Or.inl ⟨by rfl, ?_⟩) ?_ ?_
    rotate_left
    · intro w'
      go_simp
      with_reducible rfl
    rotate_left
    · simp only [Act.put, List.setIfInBounds_toArray, List.set_cons_zero, List.set_cons_succ, i64_w, i32_w]
      rfl
    refine one_ (i := 8) (N := some 67) #[true, true, true, true, true, true, true, true, true, false, false, false, false, false, false, false, false, false, false, false, false, false, false, false, false, false, false, false, false, false, false, false] rfl rfl (by kernel_rfl) (by decide) (fun K hK => ?_)
    refine goes_ Try.func15 (by kernel_rfl) rfl #[.pointer (some ⟨g13, 0, none⟩)] (by rfl) rfl rfl (by simp only [List.map_toArray, List.map_cons, List.map_nil]; rfl) ?_
    with_reducible refine (rd_Err R14.out HE1.out).mono ?_
    rintro e w15 ⟨rfl, hR, hb, hk⟩
    refine ⟨_, rfl, ?_⟩
    have B15 := Aside0.mk (B14.out.trans (hb.mono G13.out))
    have R15 := Aside0.mk hR
    clear hR hb hk
    refine hK.out _ _ ((Kd.C_string (P := Try.prog) Try.underlying22 Try.underlying5 Try.underlying9 (Kd.C_below HR.out B15.out))) (fun hHeld => ?_)
    clear hK K
    refine norm_ (a' := ?_) ?_ ?_
    rotate_left
    · show Act.put _ (some 67) _ = _
      simp only [Act.put, List.setIfInBounds_toArray, List.set_cons_zero, List.set_cons_succ, i64_w, i32_w]
      rfl
    refine pure_ (i := 9) (N := some 68) (v := ?_) (a' := ?_) #[true, true, true, true, true, true, true, true, true, true, false, false, false, false, false, false, false, false, false, false, false, false, false, false, false, false, false, false, false, false, false, false] rfl rfl (by kernel_rfl) (fun _ _ _ h => h) (Or.inl ⟨by rfl, ?_⟩) ?_ ?_
    rotate_left
    · intro w'
      go_simp
      with_reducible rfl
    rotate_left
    · simp only [Act.put, List.setIfInBounds_toArray, List.set_cons_zero, List.set_cons_succ, i64_w, i32_w]
      rfl
    refine pure_ (i := 10) (N := some 69) (v := ?_) (a' := ?_) #[true, true, true, true, true, true, true, true, true, true, true, false, false, false, false, false, false, false, false, false, false, false, false, false, false, false, false, false, false, false, false, false] rfl rfl (by kernel_rfl) (fun _ _ _ h => h) (Or.inl ⟨by rfl, ?_⟩) ?_ ?_
    rotate_left
    · intro w'
      go_simp
      with_reducible rfl
    rotate_left
    · simp only [Act.put, List.setIfInBounds_toArray, List.set_cons_zero, List.set_cons_succ, i64_w, i32_w]
      rfl
    refine pure_ (i := 11) (N := some 70) (v := ?_) (a' := ?_) #[true, true, true, true, true, true, true, true, true, true, true, true, false, false, false, false, false, false, false, false, false, false, false, false, false, false, false, false, false, false, false, false] rfl rfl (by kernel_rfl) (fun _ _ _ h => h) (Or.inl ⟨by rfl, ?_⟩) ?_ ?_
    rotate_left
    · intro w'
      go_simp
      with_reducible rfl
    rotate_left
    · simp only [Act.put, List.setIfInBounds_toArray, List.set_cons_zero, List.set_cons_succ, i64_w, i32_w]
      rfl
    refine pure_ (i := 12) (N := some 71) (v := ?_) (a' := ?_) #[true, true, true, true, true, true, true, true, true, true, true, true, true, false, false, false, false, false, false, false, false, false, false, false, false, false, false, false, false, false, false, false] rfl rfl (by kernel_rfl) (fun _ _ _ h => h) (Or.inl ⟨by rfl, ?_⟩) ?_ ?_
    rotate_left
    · intro w'
      go_simp
      with_reducible rfl
    rotate_left
    · simp only [Act.put, List.setIfInBounds_toArray, List.set_cons_zero, List.set_cons_succ, i64_w, i32_w]
      rfl
    refine one_ (i := 13) (N := some 72) #[true, true, true, true, true, true, true, true, true, true, true, true, true, true, false, false, false, false, false, false, false, false, false, false, false, false, false, false, false, false, false, false] rfl rfl (by kernel_rfl) (by decide) (fun K hK => ?_)
    refine goes_ Try.func16 (by kernel_rfl) rfl #[.pointer (some ⟨g13, 0, none⟩)] (by rfl) rfl rfl (by simp only [List.map_toArray, List.map_cons, List.map_nil]; rfl) ?_
    with_reducible refine (rd_Left R15.out HE2.out).mono ?_
    rintro e w16 ⟨rfl, hR, hb, hk⟩
    refine ⟨_, rfl, ?_⟩
    have B16 := Aside0.mk (B15.out.trans (hb.mono G13.out))
    have R16 := Aside0.mk hR
    clear hR hb hk
    refine hK.out _ _ ((Kd.C_string (P := Try.prog) Try.underlying22 Try.underlying5 Try.underlying9 (Kd.C_below HR.out B16.out))) (fun hHeld => ?_)
    clear hK K
    refine norm_ (a' := ?_) ?_ ?_
    rotate_left
    · show Act.put _ (some 72) _ = _
      simp only [Act.put, List.setIfInBounds_toArray, List.set_cons_zero, List.set_cons_succ, i64_w, i32_w]
      rfl
    refine pure_ (i := 14) (N := some 73) (v := ?_) (a' := ?_) #[true, true, true, true, true, true, true, true, true, true, true, true, true, true, true, false, false, false, false, false, false, false, false, false, false, false, false, false, false, false, false, false] rfl rfl (by kernel_rfl) (fun _ _ _ h => h) (Or.inl ⟨by rfl, ?_⟩) ?_ ?_
    rotate_left
    · intro w'
      go_simp
      with_reducible rfl
    rotate_left
    · simp only [Act.put, List.setIfInBounds_toArray, List.set_cons_zero, List.set_cons_succ, i64_w, i32_w]
      rfl
    refine pure_ (i := 15) (N := some 74) (v := ?_) (a' := ?_) #[true, true, true, true, true, true, true, true, true, true, true, true, true, true, true, true, false, false, false, false, false, false, false, false, false, false, false, false, false, false, false, false] rfl rfl (by kernel_rfl) (fun _ _ _ h => h) (Or.inl ⟨by rfl, ?_⟩) ?_ ?_
    rotate_left
    · intro w'
      go_simp
      with_reducible rfl
    rotate_left
    · simp only [Act.put, List.setIfInBounds_toArray, List.set_cons_zero, List.set_cons_succ, i64_w, i32_w]
      rfl
    refine pure_ (i := 16) (N := some 75) (v := ?_) (a' := ?_) #[true, true, true, true, true, true, true, true, true, true, true, true, true, true, true, true, true, false, false, false, false, false, false, false, false, false, false, false, false, false, false, false] rfl rfl (by kernel_rfl) (fun _ _ _ h => h) (Or.inl ⟨by rfl, ?_⟩) ?_ ?_
    rotate_left
    · intro w'
      go_simp
      with_reducible rfl
    rotate_left
    · simp only [Act.put, List.setIfInBounds_toArray, List.set_cons_zero, List.set_cons_succ, i64_w, i32_w]
      rfl
    refine pure_ (i := 17) (N := some 76) (v := ?_) (a' := ?_) #[true, true, true, true, true, true, true, true, true, true, true, true, true, true, true, true, true, true, false, false, false, false, false, false, false, false, false, false, false, false, false, false] rfl rfl (by kernel_rfl) (fun _ _ _ h => h) (Or.inl ⟨by rfl, ?_⟩) ?_ ?_
    rotate_left
    · intro w'
      go_simp
      with_reducible rfl
    rotate_left
    · simp only [Act.put, List.setIfInBounds_toArray, List.set_cons_zero, List.set_cons_succ, i64_w, i32_w]
      rfl
    refine one_ (i := 18) (N := some 77) #[true, true, true, true, true, true, true, true, true, true, true, true, true, true, true, true, true, true, true, false, false, false, false, false, false, false, false, false, false, false, false, false] rfl rfl (by kernel_rfl) (by decide) (fun K hK => ?_)
    refine goes_ Try.func17 (by kernel_rfl) rfl #[.pointer (some ⟨g13, 0, none⟩)] (by rfl) rfl rfl (by simp only [List.map_toArray, List.map_cons, List.map_nil]; rfl) ?_
    with_reducible refine (rd_End R16.out HE3.out).mono ?_
    rintro e w17 ⟨rfl, hR, hb, hk⟩
    refine ⟨_, rfl, ?_⟩
    have B17 := Aside0.mk (B16.out.trans (hb.mono G13.out))
    have R17 := Aside0.mk hR
    clear hR hb hk
    refine hK.out _ _ ((Kd.C_string (P := Try.prog) Try.underlying22 Try.underlying5 Try.underlying9 (Kd.C_below HR.out B17.out))) (fun hHeld => ?_)
    clear hK K
    refine norm_ (a' := ?_) ?_ ?_
    rotate_left
    · show Act.put _ (some 77) _ = _
      simp only [Act.put, List.setIfInBounds_toArray, List.set_cons_zero, List.set_cons_succ, i64_w, i32_w]
      rfl
    refine pure_ (i := 19) (N := some 78) (v := ?_) (a' := ?_) #[true, true, true, true, true, true, true, true, true, true, true, true, true, true, true, true, true, true, true, true, false, false, false, false, false, false, false, false, false, false, false, false] rfl rfl (by kernel_rfl) (fun _ _ _ h => h) (Or.inl ⟨by rfl, ?_⟩) ?_ ?_
    rotate_left
    · intro w'
      go_simp
      with_reducible rfl
    rotate_left
    · simp only [Act.put, List.setIfInBounds_toArray, List.set_cons_zero, List.set_cons_succ, i64_w, i32_w]
      rfl
    refine pure_ (i := 20) (N := some 79) (v := ?_) (a' := ?_) #[true, true, true, true, true, true, true, true, true, true, true, true, true, true, true, true, true, true, true, true, true, false, false, false, false, false, false, false, false, false, false, false] rfl rfl (by kernel_rfl) (fun _ _ _ h => h) (Or.inl ⟨by rfl, ?_⟩) ?_ ?_
    rotate_left
    · intro w'
      go_simp
      with_reducible rfl
    rotate_left
    · simp only [Act.put, List.setIfInBounds_toArray, List.set_cons_zero, List.set_cons_succ, i64_w, i32_w]
      rfl
    refine pure_ (i := 21) (N := some 80) (v := ?_) (a' := ?_) #[true, true, true, true, true, true, true, true, true, true, true, true, true, true, true, true, true, true, true, true, true, true, false, false, false, false, false, false, false, false, false, false] rfl rfl (by kernel_rfl) (fun _ _ _ h => h) (Or.inl ⟨by rfl, ?_⟩) ?_ ?_
    rotate_left
    · intro w'
      go_simp
      with_reducible rfl
    rotate_left
    · simp only [Act.put, List.setIfInBounds_toArray, List.set_cons_zero, List.set_cons_succ, i64_w, i32_w]
      rfl
    refine pure_ (i := 22) (N := some 81) (v := ?_) (a' := ?_) #[true, true, true, true, true, true, true, true, true, true, true, true, true, true, true, true, true, true, true, true, true, true, true, false, false, false, false, false, false, false, false, false] rfl rfl (by kernel_rfl) (fun _ _ _ h => h) (Or.inl ⟨by rfl, ?_⟩) ?_ ?_
    rotate_left
    · intro w'
      go_simp
      with_reducible rfl
    rotate_left
    · simp only [Act.put, List.setIfInBounds_toArray, List.set_cons_zero, List.set_cons_succ, i64_w, i32_w]
      rfl
    refine one_ (i := 23) (N := some 82) #[true, true, true, true, true, true, true, true, true, true, true, true, true, true, true, true, true, true, true, true, true, true, true, true, false, false, false, false, false, false, false, false] rfl rfl (by kernel_rfl) (by decide) (fun K hK => ?_)
    refine goes_ Try.func15 (by kernel_rfl) rfl #[.pointer (some ⟨g13, 0, none⟩)] (by rfl) rfl rfl (by simp only [List.map_toArray, List.map_cons, List.map_nil]; rfl) ?_
    with_reducible refine (rd_Err R17.out HE4.out).mono ?_
    rintro e w18 ⟨rfl, hR, hb, hk⟩
    refine ⟨_, rfl, ?_⟩
    have B18 := Aside0.mk (B17.out.trans (hb.mono G13.out))
    have R18 := Aside0.mk hR
    clear hR hb hk
    refine hK.out _ _ ((Kd.C_string (P := Try.prog) Try.underlying22 Try.underlying5 Try.underlying9 (Kd.C_below HR.out B18.out))) (fun hHeld => ?_)
    clear hK K
    refine norm_ (a' := ?_) ?_ ?_
    rotate_left
    · show Act.put _ (some 82) _ = _
      simp only [Act.put, List.setIfInBounds_toArray, List.set_cons_zero, List.set_cons_succ, i64_w, i32_w]
      rfl
    refine pure_ (i := 24) (N := some 83) (v := ?_) (a' := ?_) #[true, true, true, true, true, true, true, true, true, true, true, true, true, true, true, true, true, true, true, true, true, true, true, true, true, false, false, false, false, false, false, false] rfl rfl (by kernel_rfl) (fun _ _ _ h => h) (Or.inl ⟨by rfl, ?_⟩) ?_ ?_
    rotate_left
    · intro w'
      go_simp
      with_reducible rfl
    rotate_left
    · simp only [Act.put, List.setIfInBounds_toArray, List.set_cons_zero, List.set_cons_succ, i64_w, i32_w]
      rfl
    refine pure_ (i := 25) (N := some 84) (v := ?_) (a' := ?_) #[true, true, true, true, true, true, true, true, true, true, true, true, true, true, true, true, true, true, true, true, true, true, true, true, true, true, false, false, false, false, false, false] rfl rfl (by kernel_rfl) (fun _ _ _ h => h) (Or.inl ⟨by rfl, ?_⟩) ?_ ?_
    rotate_left
    · intro w'
      go_simp
      with_reducible rfl
    rotate_left
    · simp only [Act.put, List.setIfInBounds_toArray, List.set_cons_zero, List.set_cons_succ, i64_w, i32_w]
      rfl
    refine pure_ (i := 26) (N := some 85) (v := ?_) (a' := ?_) #[true, true, true, true, true, true, true, true, true, true, true, true, true, true, true, true, true, true, true, true, true, true, true, true, true, true, true, false, false, false, false, false] rfl rfl (by kernel_rfl) (fun _ _ _ h => h) (Or.inl ⟨by rfl, ?_⟩) ?_ ?_
    rotate_left
    · intro w'
      go_simp
      with_reducible rfl
    rotate_left
    · simp only [Act.put, List.setIfInBounds_toArray, List.set_cons_zero, List.set_cons_succ, i64_w, i32_w]
      rfl
    refine pure_ (i := 27) (N := some 86) (v := ?_) (a' := ?_) #[true, true, true, true, true, true, true, true, true, true, true, true, true, true, true, true, true, true, true, true, true, true, true, true, true, true, true, true, false, false, false, false] rfl rfl (by kernel_rfl) (fun _ _ _ h => h) (Or.inl ⟨by rfl, ?_⟩) ?_ ?_
    rotate_left
    · intro w'
      go_simp
      with_reducible rfl
    rotate_left
    · simp only [Act.put, List.setIfInBounds_toArray, List.set_cons_zero, List.set_cons_succ, i64_w, i32_w]
      rfl
    refine one_ (i := 28) (N := some 87) #[true, true, true, true, true, true, true, true, true, true, true, true, true, true, true, true, true, true, true, true, true, true, true, true, true, true, true, true, true, false, false, false] rfl rfl (by kernel_rfl) (by decide) (fun K hK => ?_)
    refine goes_ Try.func24 (by kernel_rfl) rfl #[.pointer (some ⟨g13, 0, none⟩)] (by rfl) rfl rfl (by simp only [List.map_toArray, List.map_cons, List.map_nil]; rfl) ?_
    with_reducible refine (rd_Bool R18.out HE5.out).mono ?_
    rintro e w19 ⟨rfl, hR, hb, hk⟩
    refine ⟨_, rfl, ?_⟩
    have B19 := Aside0.mk (B18.out.trans (hb.mono G13.out))
    have R19 := Aside0.mk hR
    clear hR hb hk
    refine hK.out _ _ ((Kd.C_string (P := Try.prog) Try.underlying22 Try.underlying5 Try.underlying9 (Kd.C_below HR.out B19.out))) (fun hHeld => ?_)
    clear hK K
    refine norm_ (a' := ?_) ?_ ?_
    rotate_left
    · show Act.put _ (some 87) _ = _
      simp only [Act.put, List.setIfInBounds_toArray, List.set_cons_zero, List.set_cons_succ, i64_w, i32_w]
      rfl
    refine pure_ (i := 29) (N := some 88) (v := ?_) (a' := ?_) #[true, true, true, true, true, true, true, true, true, true, true, true, true, true, true, true, true, true, true, true, true, true, true, true, true, true, true, true, true, true, false, false] rfl rfl (by kernel_rfl) (fun _ _ _ h => h) (Or.inl ⟨by rfl, ?_⟩) ?_ ?_
    rotate_left
    · intro w'
      go_simp
      with_reducible rfl
    rotate_left
    · simp only [Act.put, List.setIfInBounds_toArray, List.set_cons_zero, List.set_cons_succ, i64_w, i32_w]
      rfl
    refine pure_ (i := 30) (N := some 89) (v := ?_) (a' := ?_) #[true, true, true, true, true, true, true, true, true, true, true, true, true, true, true, true, true, true, true, true, true, true, true, true, true, true, true, true, true, true, true, false] rfl rfl (by kernel_rfl) (fun _ _ _ h => h) (Or.inl ⟨by rfl, ?_⟩) ?_ ?_
    rotate_left
    · intro w'
      go_simp
      with_reducible rfl
    rotate_left
    · simp only [Act.put, List.setIfInBounds_toArray, List.set_cons_zero, List.set_cons_succ, i64_w, i32_w]
      rfl
    refine pure_ (i := 31) (N := some 4) (v := ?_) (a' := ?_) #[true, true, true, true, true, true, true, true, true, true, true, true, true, true, true, true, true, true, true, true, true, true, true, true, true, true, true, true, true, true, true, true] rfl rfl (by kernel_rfl) (fun _ _ _ h => h) (Or.inl ⟨by rfl, ?_⟩) ?_ ?_
    rotate_left
    · intro w'
      go_simp
      with_reducible rfl
    rotate_left
    · simp only [Act.put, List.setIfInBounds_toArray, List.set_cons_zero, List.set_cons_succ, i64_w, i32_w]
      rfl
    refine done_ (by kernel_rfl) ?_
--END15
    go_wp2
    go_ret
    exact ⟨rfl, B19.out⟩
end Go.Proofs.Ytpbchkgahjafeaa.Pure
