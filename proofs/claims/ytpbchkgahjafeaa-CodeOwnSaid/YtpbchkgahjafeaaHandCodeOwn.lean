/-
  CodeOwn, walked by hand: bytes that are handed in and out are not the reader's.
-/
import Derived.Test.YtpbchkgahjafeaaOBytes
import Derived.Test.YtpbchkgahjafeaaPCode3
namespace Go.Proofs.Ytpbchkgahjafeaa.Pure
open Go.RowKit Go.Proofs.Ytpbchkgahjafeaa.M Go.Proofs.YtpbchkgahjafeaaW.PrintWords Go.Proofs.YtpbchkgahjafeaaW.PrintLast Go.Proofs.YtpbchkgahjafeaaW.PrintMore Go.Proofs.Ytpbchkgahjafeaa.Pure.Code Go.Proofs.Ytpbchkgahjafeaa.Pure.Bits
set_option linter.unusedVariables false
set_option linter.unusedSimpArgs false
/-- a write into another block leaves a reader as it is -/
theorem IsR_store {lo : Nat} {w : World} {g : Nat} {l : List Int} {a e : Int} (h : IsR lo w g l a e) {k : Nat} (hk : k ≠ g ∧ (g < k ∨ k < lo)) (j : Nat) (u : Value) : IsR lo (w.setCell ⟨k, j, none⟩ u) g l a e :=
  h.kept (S := fun q => q = k) ⟨by simp [World.setCell], fun i _ hi => Below.heap_setCell w ⟨k, j, none⟩ u i hi⟩ (fun q hq => by rw [hq]; exact hk)
theorem C_lt {w : World} {A : Option Addr} {l : List Int} (h : Kd.C (Kd.int .u8) w A l.length l) {ad : Addr} (hA : A = some ad) (hn : 0 < l.length) : ad.block < w.heap.size := by
  obtain ⟨_, _, h3⟩ := h
  obtain ⟨a2, hA2, hc⟩ := h3 hn
  rw [hA] at hA2
  obtain rfl : ad = a2 := by injection hA2
  obtain ⟨c2, hl2, hR, hcell⟩ := hc 0 (l[0]'hn) (by simp)
  obtain rfl : c2 = [.int .u8 (l[0]'hn)] := hR
  have := World.block_lt_of_cell? _ _ (hcell 0 _ rfl)
  rwa [add_block] at this
set_option maxHeartbeats 4000000 in
set_option maxRecDepth 100000 in
theorem CodeOwn_hand (A0 : Option Addr) (c0 : Nat) (l : List Int) (w : World) (hr : Kd.C (Kd.int .u8) w A0 l.length l) (hc : l.length ≤ c0) (g1 : l.length * 1 ≤ 140737488351232 ∧ ∀ x ∈ l, (Lit.int .u8 x).wf = true) :
    Calls Try.prog 6 #[.slice A0 l.length c0] w fun e w' => e = .returned (.bool true) ∧ Below w.heap.size w w' := by
  have BB : Bytes l := fun x hx => by have := g1.2 x hx; simp [Lit.wf, IntKind.min, IntKind.max, IntKind.signed, IntKind.bits] at this; omega
  obtain ⟨k1, h1⟩ := writes_ev.rounds
  have HB := Aside0.mk (Below.refl w.heap.size w)
  have H1 := Aside0.mk h1; clear h1
  have HR := Aside0.mk hr; have HC := Aside0.mk hc; clear hr hc
  by_cases hlen : l.length > 500
  · have c0_ : decide (500 < (l.length : Int)) = true := decide_eq_true (by omega)
    have c1_ : decide ((l.length : Int) > 500) = true := decide_eq_true (by omega)
    clear g1
    go_enter Try.func6, Try.ntmps6
    go_wp2_with (first | (go_at_call 10; refine (contralaw04_writes.calls k1 true _ H1.out).mono ?_; rintro e w1 ⟨rfl, hb⟩; have B1 := Aside0.mk (below_step HB.out hb); clear hb))
    go_ret
    exact ⟨rfl, B1.out⟩
  · have c0_ : decide (500 < (l.length : Int)) = false := decide_eq_false (by omega)
    have c1_ : decide ((l.length : Int) > 500) = false := decide_eq_false (by omega)
    have hlen' : l.length ≤ 500 := by omega
    clear hlen g1
    have hi : I64 (l.length : Int) := by unfold I64; omega
    have hp := enc_pos (l.length : Int)
    have h10 := enc_len hi
    obtain ⟨L1, hL1⟩ : ∃ L, L = enc (l.length : Int) ++ l := ⟨_, rfl⟩
    have hl1 : L1.length = (enc (l.length : Int)).length + l.length := by rw [hL1]; exact List.length_append
    obtain ⟨L, hL⟩ : ∃ L, L = L1 ++ enc (l.length : Int) ++ l := ⟨_, rfl⟩
    have hl2 : L.length = L1.length + ((enc (l.length : Int)).length + l.length) := by rw [hL, List.append_assoc, List.length_append, List.length_append]
    obtain ⟨k2, h2⟩ := (bytes_ev [] l (by simp; omega)).rounds
    obtain ⟨k3, h3⟩ := (bytes_ev L1 l (by omega)).rounds
    rw [List.nil_append, ← hL1] at h2
    rw [← hL] at h3
    have H2 := Aside0.mk h2; clear h2
    have H3 := Aside0.mk h3; clear h3
    have hLb : Bytes L := fun x hx => by
      rw [hL, hL1] at hx
      simp only [List.mem_append] at hx
      rcases hx with ((q | q) | q) | q
      · exact enc_bytes _ x q
      · exact BB x q
      · exact enc_bytes _ x q
      · exact BB x q
    obtain ⟨k4, h4⟩ := (rd_int_ev (l := L) (by omega) hLb (a := 0) (Nat.zero_le _) 0 16384).rounds
    obtain ⟨k5, h5⟩ := (rd_int_ev (l := L) (by omega) hLb (a := L1.length) (by omega) 0 16384).rounds
    have e4 : rdNum L 0 = ((l.length : Int), (enc (l.length : Int)).length, 0) := by
      have := rdNum_enc hi L (l ++ (enc (l.length : Int) ++ l)) 0 (by rw [List.drop_zero, hL, hL1]; simp only [List.append_assoc])
      rwa [Nat.zero_add] at this
    have e5 : rdNum L L1.length = ((l.length : Int), L1.length + (enc (l.length : Int)).length, 0) :=
      rdNum_enc hi L l L1.length (by rw [hL, List.append_assoc, List.drop_left])
    have e4' : rdInt L 0 0 16384 = ((l.length : Int), (enc (l.length : Int)).length, 0) := by
      unfold rdInt; rw [e4]; simp only; rw [if_pos trivial, if_pos (by unfold inRange; omega)]
    have e5' : rdInt L L1.length 0 16384 = ((l.length : Int), L1.length + (enc (l.length : Int)).length, 0) := by
      unfold rdInt; rw [e5]; simp only; rw [if_pos trivial, if_pos (by unfold inRange; omega)]
    rw [e4'] at h4
    rw [e5'] at h5
    dsimp only at h4 h5
    have H4 := Aside0.mk h4; have H5 := Aside0.mk h5; clear h4 h5 e4 e5 e4' e5' hLb
    have T4 := Aside0.mk (show (L.drop (enc (l.length : Int)).length).take ((l.length : Int)).toNat = l by rw [hL, hL1, List.append_assoc, List.append_assoc, List.drop_left, Int.toNat_natCast, List.take_left])
    have T5 := Aside0.mk (show (L.drop (L1.length + (enc (l.length : Int)).length)).take ((l.length : Int)).toNat = l by rw [hL, ← List.length_append, List.drop_left, Int.toNat_natCast, List.take_length])
    have P4 := Aside0.mk (show ((enc (l.length : Int)).length : Int) + (l.length : Int) = ((L1.length : Nat) : Int) by omega)
    have P5 := Aside0.mk (show ((L1.length + (enc (l.length : Int)).length : Nat) : Int) + (l.length : Int) = ((L.length : Nat) : Int) by omega)
    have HE := Aside0.mk (show code_Reader_End.f L ((L.length : Nat) : Int) 0 = some (0, ((L.length : Nat) : Int), 0) by
      rw [end_f _ _ _ (Nat.le_refl _) (by omega), if_neg (fun q => Nat.lt_irrefl _ q.1)])
    replace hl2 := Aside0.mk hl2; replace hl1 := Aside0.mk hl1; replace h10 := Aside0.mk h10; replace hp := Aside0.mk hp; have HL := Aside0.mk hlen'
    have CL := Aside0.mk (fun ad h1 h2 => C_lt (ad := ad) HR.out h1 h2)
    clear hL hL1 hlen' hi BB
    go_enter Try.func6, Try.ntmps6
    go_wp2_with fail
    refine (contralaw04_writes.calls k1 true _ H1.out).mono ?_; rintro e w1 ⟨rfl, hb⟩; have B1 := Aside0.mk (below_step HB.out hb); clear hb
    go_wp2_with fail
    refine (code_Bytes.calls k2 (fun _ => False) (.slice none 0 0) [] A0 c0 l _ w _ B1.out (Kd.R_nil _ _ _ _ _) (fun W hk => C_move (Kd.C_below HR.out B1.out) (fun ad h1 h2 => hk.2 ad.block (Nat.lt_of_lt_of_le (CL.out ad h1 h2) B1.out.size) (fun q => q))) HC.out H2.out).mono ?_; rintro e w2 ⟨v2, rfl, ho, hb, hkp⟩; have B2 := Aside0.mk hb; have O2 := Aside0.mk (Kd.R_mono ho (ok' := fun k => w.heap.size ≤ k) (fun k hk => hk.elim False.elim (fun q => Nat.le_trans B1.out.size q))); clear ho hb hkp
    go_wp2_with fail
    refine (code_Bytes.calls k3 (fun k => w.heap.size ≤ k) v2 L1 A0 c0 l _ w _ B2.out O2.out (fun W hk => C_move (Kd.C_below HR.out B2.out) (fun ad h1 h2 => hk.2 ad.block (Nat.lt_of_lt_of_le (CL.out ad h1 h2) B2.out.size) (fun q => absurd (CL.out ad h1 h2) (Nat.not_lt.mpr q)))) HC.out H3.out).mono ?_; rintro e w3 ⟨v3, rfl, ho, hb, hkp⟩; have B3 := Aside0.mk hb; have O3 := Aside0.mk (Kd.R_mono ho (ok' := fun _ => True) (fun k hk => trivial)); clear ho hb hkp
    obtain ⟨gb, cb, rfl, hgb, hgl, -⟩ := Kd.R_form O3.out (by have := hl2.out; have := hp.out; omega)
    have GB := Aside0.mk hgb; have GL := Aside0.mk hgl; clear hgb hgl
    have C3 := Aside0.mk (Kd.R_reads' O3.out).2
    go_wp2_with fail
    refine (code_Read.callsm rfl C3.out.2 C3.out.1 (by have := hl2.out; have := hl1.out; have := h10.out; have := HL.out; omega)).mono ?_; rintro e w4 ⟨g, rfl, hg, hR, hb⟩; have B4 := Aside0.mk (below_step B3.out hb); have R4 := Aside0.mk hR; have G4 := Aside0.mk hg; have O4 := Aside0.mk (Kd.R_below O3.out hb); clear hg hR hb
    go_wp2_with fail
    have LO := Aside0.mk (Nat.le_trans B3.out.size G4.out)
    go_loopg [21] (L.length + 1) (fun kq v21 w' => ∃ (xs : List Int) (i : Int), v21 = .int .i64 i ∧ Aside0 (0 ≤ i ∧ i + (kq : Int) = (L.length : Int) + 1) ∧ Aside0 (xs.length = L.length) ∧ Aside0 (Kd.R (Kd.int .u8) 5 w' w.heap.size (fun _ => True) (.slice (some ⟨gb, 0, none⟩) L.length cb) xs) ∧ Aside0 (IsR w3.heap.size w' g L 0 0) ∧ Aside0 (Below w.heap.size w w'))
    case atStart => exact ⟨L, 0, rfl, ⟨⟨by omega, by omega⟩⟩, ⟨rfl⟩, ⟨O4.out⟩, ⟨R4.out⟩, ⟨B4.out⟩⟩
    case round =>
      obtain ⟨xs, i, rfl, HI, HX, HO, HRd, HBw⟩ := hrel
      by_cases hi : i < (L.length : Int)
      · have d1 : decide (i < (L.length : Int)) = true := decide_eq_true hi
        have hi0 : 0 ≤ i := HI.out.1
        obtain ⟨ad1, e1, hx1⟩ := Kd.at_int (Kd.R_reads' HO.out).2.2 i hi0 (by rw [HX.out]; exact hi)
        obtain ⟨hx, hf⟩ := Kd.R_celln 0 HO.out i hi0 hi
        have hP := Aside0.mk (Kd.R_putg HO.out i ((rd xs i + 1) % 256))
        have b2 : wrap64 (i + 1) = i + 1 := by have := HL.out; have := hl2.out; have := hl1.out; have := h10.out; unfold wrap64; omega
        have q1 := eq_true hi0
        have q2 := eq_true hi
        have q3 : decide (0 ≤ i) = true := decide_eq_true hi0
        have NK := Aside0.mk (show i + 1 + ((gk - 1 : Nat) : Int) = (L.length : Int) + 1 ∧ 0 < gk by have := HI.out.2; omega)
        clear e1 hx1
        have hB9 := Aside0.mk (below_set HBw.out GB.out : Below w.heap.size w (wr.setCell ⟨gb, (i : Int).toNat, none⟩ (.int .u8 ((rd xs i + 1) % 256))))
        have hR9 := Aside0.mk (IsR_store HRd.out (k := gb) ⟨by have := G4.out; have := GL.out; omega, .inr GL.out⟩ (i : Int).toNat (.int .u8 ((rd xs i + 1) % 256)))
        go_wp2_with fail
        go_roundg (gk - 1)
        case measure => have := NK.out.2; omega
        case rel => exact ⟨xs.set (i : Int).toNat ((rd xs i + 1) % 256), wrap64 (i + 1), rfl, ⟨by rw [b2]; have := HI.out.1; omega, by rw [b2]; exact NK.out.1⟩, ⟨by rw [List.length_set]; exact HX.out⟩, ⟨hP.out.1⟩, hR9, hB9⟩
      · have d1 : decide (i < (L.length : Int)) = false := decide_eq_false hi
        go_wp2_with fail
        refine (rd_Bytes_ok HRd.out H4.out (by omega) (by have := P4.out; have := hl2.out; omega) (by have := hl2.out; have := hl1.out; have := h10.out; have := HL.out; omega)).mono ?_; rintro x w6 ⟨v6, rfl, ho, hR, hb, hk⟩; rw [P4.out] at hR; rw [T4.out] at ho; have B6 := Aside0.mk (HBw.out.trans (hb.mono (Nat.le_trans B3.out.size G4.out))); have R6 := Aside0.mk hR; have O6 := Aside0.mk (Kd.R_lower ho (Nat.succ_le_of_lt HRd.out.lt)); have LG := Aside0.mk HRd.out.lt; have hcv1 := own_string (P := Try.prog) Try.underlying22 Try.underlying5 Try.underlying9 (Kd.own_of_R ho); have hcv2 := Kd.C_string (P := Try.prog) (c := c0) Try.underlying22 Try.underlying5 Try.underlying9 (Kd.C_below HR.out B6.out); clear ho hR hb hk
        obtain ⟨A6, c6, rfl⟩ := Kd.R_slice O6.out
        go_wp2_with fail
        go_loopg [40] (l.length + 1) (fun kq v40 w' => ∃ (xs : List Int) (i : Int), v40 = .int .i64 i ∧ Aside0 (0 ≤ i ∧ i + (kq : Int) = (l.length : Int) + 1) ∧ Aside0 (xs.length = l.length) ∧ Aside0 (Kd.R (Kd.int .u8) 5 w' (g + 1) (fun _ => True) (.slice A6 l.length c6) xs) ∧ Aside0 (IsR 0 w' g L (L1.length : Int) 0) ∧ Aside0 (Below w.heap.size w w'))
        case atStart => exact ⟨l, 0, rfl, ⟨⟨by omega, by omega⟩⟩, ⟨rfl⟩, ⟨O6.out⟩, ⟨R6.out⟩, ⟨B6.out⟩⟩
        case round =>
          obtain ⟨xv, j, rfl, HJ, HXv, HOv, HRv, HBv⟩ := hrel
          by_cases hj : j < (l.length : Int)
          · have d2 : decide (j < (l.length : Int)) = true := decide_eq_true hj
            have hj0 : 0 ≤ j := HJ.out.1
            obtain ⟨gx, cx, ex, hgx, hgx2, -⟩ := Kd.R_form HOv.out (by rw [HXv.out]; omega)
            obtain ⟨rfl, -, rfl⟩ : A6 = some ⟨gx, 0, none⟩ ∧ l.length = xv.length ∧ c6 = cx := by injection ex with a b c; exact ⟨a, b, c⟩
            obtain ⟨hx, hf⟩ := Kd.R_celln 0 HOv.out j hj0 hj
            have hP := Aside0.mk (Kd.R_putg HOv.out j ((rd xv j + 1) % 256))
            have b2 : wrap64 (j + 1) = j + 1 := by have := HL.out; unfold wrap64; omega
            have q1 := eq_true hj0
            have q2 := eq_true hj
            have q3 : decide (0 ≤ j) = true := decide_eq_true hj0
            have NK := Aside0.mk (show j + 1 + ((gk - 1 : Nat) : Int) = (l.length : Int) + 1 ∧ 0 < gk by have := HJ.out.2; omega)
            have hB9 := Aside0.mk (below_set HBv.out (Nat.le_trans (Nat.le_trans B3.out.size G4.out) (Nat.le_of_lt hgx)) : Below w.heap.size w (wr.setCell ⟨gx, (j : Int).toNat, none⟩ (.int .u8 ((rd xv j + 1) % 256))))
            have hR9 := Aside0.mk (IsR_store HRv.out (k := gx) ⟨by omega, .inl hgx⟩ (j : Int).toNat (.int .u8 ((rd xv j + 1) % 256)))
            clear hgx hgx2 ex
            go_wp2_with fail
            go_roundg (gk - 1)
            case measure => have := NK.out.2; omega
            case rel => exact ⟨xv.set (j : Int).toNat ((rd xv j + 1) % 256), wrap64 (j + 1), rfl, ⟨by rw [b2]; have := HJ.out.1; omega, by rw [b2]; exact NK.out.1⟩, ⟨by rw [List.length_set]; exact HXv.out⟩, ⟨hP.out.1⟩, hR9, hB9⟩
          · have d2 : decide (j < (l.length : Int)) = false := decide_eq_false hj
            go_wp2_with fail
--REG20
            refine start_ (n := 12) (S := fun w' => (convert 22 9 (.slice A0 l.length c0)).run Try.prog w' = .ok (.string (strOfNums l)) w') (ds := []) #[false, false, false, false, false, false, false, false, false, false, false, false] (by kernel_rfl) rfl rfl ((Kd.C_string (P := Try.prog) (c := c0) Try.underlying22 Try.underlying5 Try.underlying9 (Kd.C_below HR.out (below_step HBv.out (below_drew (Below.refl _ _)))))) (fun hHeld => ?_)
            refine pure_ (i := 0) (N := some 50) (v := ?_) (a' := ?_) #[true, false, false, false, false, false, false, false, false, false, false, false] rfl rfl (by kernel_rfl) (fun _ _ _ h => h) (Or.inl ⟨by rfl, ?_⟩) ?_ ?_
            rotate_left
            · intro w'
              go_simp
              with_reducible rfl
            rotate_left
            · simp only [Act.put, List.setIfInBounds_toArray, List.set_cons_zero, List.set_cons_succ, i64_w, i32_w]
              rfl
            refine pure_ (i := 3) (N := some 53) (v := ?_) (a' := ?_) #[true, false, false, true, false, false, false, false, false, false, false, false] rfl rfl (by kernel_rfl) (fun _ _ _ h => h) (Or.inl ⟨by rfl, ?_⟩) ?_ ?_
            rotate_left
            · intro w'
              go_simp
              with_reducible rfl
            rotate_left
            · simp only [Act.put, List.setIfInBounds_toArray, List.set_cons_zero, List.set_cons_succ, i64_w, i32_w]
              rfl
            refine take_ (i := 4) (N := some 54) (v := ?_) (a' := ?_) #[true, false, false, true, true, false, false, false, false, false, false, false] rfl rfl (by kernel_rfl) (fun _ _ _ h => h) (Or.inl ⟨by rfl, ?_⟩) hHeld ?_ ?_
            rotate_left
            · intro w' s0
              go_simp
              with_reducible rfl
            rotate_left
            · simp only [Act.put, List.setIfInBounds_toArray, List.set_cons_zero, List.set_cons_succ, i64_w, i32_w]
              rfl
            refine one_ (i := 1) (N := some 51) #[true, true, false, true, true, false, false, false, false, false, false, false] rfl rfl (by kernel_rfl) (by decide) (fun K hK => ?_)
            refine goes_ Try.func20 (by kernel_rfl) rfl #[.pointer (some ⟨g, 0, none⟩)] (by rfl) rfl rfl (by simp only [List.map_toArray, List.map_cons, List.map_nil]; rfl) ?_
            with_reducible refine (rd_Bytes_ok (w := wr.drew) (HRv.out.below (below_drew (Below.refl _ _))) H5.out (by omega) (by have := P5.out; omega) (by have := hl2.out; have := hl1.out; have := h10.out; have := HL.out; omega)).mono ?_
            rintro x w14 ⟨v14, rfl, ho, hR, hb, hk⟩
            refine ⟨_, rfl, ?_⟩
            have B14 := Aside0.mk ((below_step HBv.out (below_drew (Below.refl _ _))).trans (hb.mono (Nat.le_trans B3.out.size G4.out)))
            rw [P5.out] at hR
            have R14 := Aside0.mk hR
            rw [T5.out] at ho
            have hcv := own_string (P := Try.prog) Try.underlying22 Try.underlying5 Try.underlying9 (Kd.own_of_R ho)
            clear hR hb hk ho
            refine hK.out _ _ ((Kd.C_string (P := Try.prog) (c := c0) Try.underlying22 Try.underlying5 Try.underlying9 (Kd.C_below HR.out (B14.out)))) (fun hHeld => ?_)
            clear hK K
            refine norm_ (a' := ?_) ?_ ?_
            rotate_left
            · show Act.put _ (some 51) _ = _
              simp only [Act.put, List.setIfInBounds_toArray, List.set_cons_zero, List.set_cons_succ, i64_w, i32_w]
              rfl
            refine one_ (i := 2) (N := some 52) #[true, true, true, true, true, false, false, false, false, false, false, false] rfl rfl (by kernel_rfl) (by decide) (fun K hK => ?_)
            refine value_ (w1 := ?_) (v := ?_) (by rfl) rfl ?_ ?_
            rotate_left 2
            · go_simp
              constructor
              · rfl
              · rfl
            clear hcv
            refine hK.out _ _ ((Kd.C_string (P := Try.prog) (c := c0) Try.underlying22 Try.underlying5 Try.underlying9 (Kd.C_below HR.out (B14.out)))) (fun hHeld => ?_)
            clear hK K
            refine norm_ (a' := ?_) ?_ ?_
            rotate_left
            · show Act.put _ (some 52) _ = _
              simp only [Act.put, List.setIfInBounds_toArray, List.set_cons_zero, List.set_cons_succ, i64_w, i32_w]
              rfl
            refine pure_ (i := 5) (N := some 55) (v := ?_) (a' := ?_) #[true, true, true, true, true, true, false, false, false, false, false, false] rfl rfl (by kernel_rfl) (fun _ _ _ h => h) (Or.inl ⟨by rfl, ?_⟩) ?_ ?_
            rotate_left
            · intro w'
              go_simp
              with_reducible rfl
            rotate_left
            · simp only [Act.put, List.setIfInBounds_toArray, List.set_cons_zero, List.set_cons_succ, i64_w, i32_w]
              rfl
            refine pure_ (i := 6) (N := some 56) (v := ?_) (a' := ?_) #[true, true, true, true, true, true, true, false, false, false, false, false] rfl rfl (by kernel_rfl) (fun _ _ _ h => h) (Or.inl ⟨by rfl, ?_⟩) ?_ ?_
            rotate_left
            · intro w'
              go_simp
              with_reducible rfl
            rotate_left
            · simp only [Act.put, List.setIfInBounds_toArray, List.set_cons_zero, List.set_cons_succ, i64_w, i32_w]
              rfl
            refine pure_ (i := 7) (N := some 57) (v := ?_) (a' := ?_) #[true, true, true, true, true, true, true, true, false, false, false, false] rfl rfl (by kernel_rfl) (fun _ _ _ h => h) (Or.inl ⟨by rfl, ?_⟩) ?_ ?_
            rotate_left
            · intro w'
              go_simp
              with_reducible rfl
            rotate_left
            · simp only [Act.put, List.setIfInBounds_toArray, List.set_cons_zero, List.set_cons_succ, i64_w, i32_w]
              rfl
            refine one_ (i := 8) (N := some 58) #[true, true, true, true, true, true, true, true, true, false, false, false] rfl rfl (by kernel_rfl) (by decide) (fun K hK => ?_)
            refine goes_ Try.func17 (by kernel_rfl) rfl #[.pointer (some ⟨g, 0, none⟩)] (by rfl) rfl rfl (by simp only [List.map_toArray, List.map_cons, List.map_nil]; rfl) ?_
            with_reducible refine (rd_End R14.out HE.out).mono ?_
            rintro e w15 ⟨rfl, hR, hb, hk⟩
            refine ⟨_, rfl, ?_⟩
            have B15 := Aside0.mk (B14.out.trans (hb.mono (Nat.le_trans B3.out.size G4.out)))
            clear hR hb hk
            refine hK.out _ _ ((Kd.C_string (P := Try.prog) (c := c0) Try.underlying22 Try.underlying5 Try.underlying9 (Kd.C_below HR.out (B15.out)))) (fun hHeld => ?_)
            clear hK K
            refine norm_ (a' := ?_) ?_ ?_
            rotate_left
            · show Act.put _ (some 58) _ = _
              simp only [Act.put, List.setIfInBounds_toArray, List.set_cons_zero, List.set_cons_succ, i64_w, i32_w]
              rfl
            refine pure_ (i := 9) (N := some 59) (v := ?_) (a' := ?_) #[true, true, true, true, true, true, true, true, true, true, false, false] rfl rfl (by kernel_rfl) (fun _ _ _ h => h) (Or.inl ⟨by rfl, ?_⟩) ?_ ?_
            rotate_left
            · intro w'
              go_simp
              with_reducible rfl
            rotate_left
            · simp only [Act.put, List.setIfInBounds_toArray, List.set_cons_zero, List.set_cons_succ, i64_w, i32_w]
              rfl
            refine pure_ (i := 10) (N := some 60) (v := ?_) (a' := ?_) #[true, true, true, true, true, true, true, true, true, true, true, false] rfl rfl (by kernel_rfl) (fun _ _ _ h => h) (Or.inl ⟨by rfl, ?_⟩) ?_ ?_
            rotate_left
            · intro w'
              go_simp
              with_reducible rfl
            rotate_left
            · simp only [Act.put, List.setIfInBounds_toArray, List.set_cons_zero, List.set_cons_succ, i64_w, i32_w]
              rfl
            refine pure_ (i := 11) (N := some 2) (v := ?_) (a' := ?_) #[true, true, true, true, true, true, true, true, true, true, true, true] rfl rfl (by kernel_rfl) (fun _ _ _ h => h) (Or.inl ⟨by rfl, ?_⟩) ?_ ?_
            rotate_left
            · intro w'
              go_simp
              with_reducible rfl
            rotate_left
            · simp only [Act.put, List.setIfInBounds_toArray, List.set_cons_zero, List.set_cons_succ, i64_w, i32_w]
              rfl
            refine done_ (by kernel_rfl) ?_
--END20
            go_wp2
            go_ret
            exact ⟨rfl, B15.out⟩
end Go.Proofs.Ytpbchkgahjafeaa.Pure
