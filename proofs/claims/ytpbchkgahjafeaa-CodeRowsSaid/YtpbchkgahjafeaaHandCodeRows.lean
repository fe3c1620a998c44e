/-
  CodeRows, walked by hand: numbers, truths and lists written one behind the other are read as they were.
-/
import Derived.Test.YtpbchkgahjafeaaOBytes
import Derived.Test.YtpbchkgahjafeaaPRows04
namespace Go.Proofs.Ytpbchkgahjafeaa.Pure
open Go.RowKit Go.Proofs.Ytpbchkgahjafeaa.M Go.Proofs.YtpbchkgahjafeaaW.PrintWords Go.Proofs.YtpbchkgahjafeaaW.PrintLast Go.Proofs.YtpbchkgahjafeaaW.PrintMore Go.Proofs.Ytpbchkgahjafeaa.Pure.Code Go.Proofs.Ytpbchkgahjafeaa.Pure.Bits
set_option linter.unusedVariables false
set_option linter.unusedSimpArgs false
theorem C_lt {w : World} {A : Option Addr} {l : List Int} (h : Kd.C (Kd.int .u8) w A l.length l) {ad : Addr} (hA : A = some ad) (hn : 0 < l.length) : ad.block < w.heap.size := by
  obtain ⟨_, _, h3⟩ := h
  obtain ⟨a2, hA2, hc⟩ := h3 hn
  rw [hA] at hA2
  obtain rfl : ad = a2 := by injection hA2
  obtain ⟨c2, hl2, hR, hcell⟩ := hc 0 (l[0]'hn) (by simp)
  obtain rfl : c2 = [.int .u8 (l[0]'hn)] := hR
  have := World.block_lt_of_cell? _ _ (hcell 0 _ rfl)
  rwa [add_block] at this
theorem at_boolA {w : World} {ad : Addr} {n : Nat} {xs : List Bool} (h : Kd.bool.C w (some ad) n xs) (i : Int) (h0 : 0 ≤ i) (h1 : i < n) : w.cell? (ad.add i.toNat) = some (.bool (rdOf false xs i)) := by
  obtain ⟨ad2, e, hx⟩ := Kd.at_bool h i h0 h1
  obtain rfl : ad = ad2 := by injection e
  exact hx
theorem at_boolN {w : World} {ad : Addr} {n : Nat} {xs : List Bool} (h : Kd.bool.C w (some ad) n xs) (i : Nat) (h0 : (0 : Int) ≤ (i : Int)) (h1 : (i : Int) < n) : w.cell? (ad.add i) = some (.bool (rdOf false xs (i : Int))) := by
  have := at_boolA h (i : Int) h0 h1
  rwa [Int.toNat_natCast] at this
theorem at_intA {k : IntKind} {w : World} {ad : Addr} {n : Nat} {xs : List Int} (h : (Kd.int k).C w (some ad) n xs) (i : Int) (h0 : 0 ≤ i) (h1 : i < n) : w.cell? (ad.add i.toNat) = some (.int k (rd xs i)) := by
  obtain ⟨ad2, e, hx⟩ := Kd.at_int h i h0 h1
  obtain rfl : ad = ad2 := by injection e
  exact hx
theorem at_some {α : Type} {d : Kd α} {w : World} {A : Option Addr} {n : Nat} {xs : List α} (h : d.C w A n xs) (h0 : 0 < n) : ∃ ad, A = some ad := by
  obtain ⟨h1, _, h3⟩ := h
  obtain ⟨ad, e, _⟩ := h3 (by omega)
  exact ⟨ad, e⟩
set_option maxHeartbeats 4000000 in
set_option maxRecDepth 100000 in
theorem CodeRows_hand (A0 : Option Addr) (c0 : Nat) (l0 : List Int) (A1 : Option Addr) (c1 : Nat) (l1 : List Bool) (A2 : Option Addr) (c2 : Nat) (l2 : List Int) (w : World)
    (hr0 : Kd.C (Kd.int .i64) w A0 l0.length l0) (hc0 : l0.length ≤ c0) (hr1 : Kd.C Kd.bool w A1 l1.length l1) (hc1 : l1.length ≤ c1) (hr2 : Kd.C (Kd.int .u8) w A2 l2.length l2) (hc2 : l2.length ≤ c2)
    (g0 : l0.length * 8 ≤ 140737488351232 ∧ ∀ x ∈ l0, (Lit.int .i64 x).wf = true) (g1 : l1.length * 1 ≤ 140737488351232 ∧ ∀ x ∈ l1, True) (g2 : l2.length * 1 ≤ 140737488351232 ∧ ∀ x ∈ l2, (Lit.int .u8 x).wf = true) :
    Calls Try.prog 9 #[.slice A0 l0.length c0, .slice A1 l1.length c1, .slice A2 l2.length c2] w fun e w' => e = .returned (.bool true) ∧ Below w.heap.size w w' := by
  have hn : ∀ x ∈ l0, I64 x := fun x hx => wf_i64 (g0.2 x hx)
  have hB2 : Bytes l2 := fun x hx => by
    have := g2.2 x hx; simp [Lit.wf, IntKind.min, IntKind.max, IntKind.signed, IntKind.bits] at this; omega
  obtain ⟨k1, h1⟩ := writes_ev.rounds
  have HB := Aside0.mk (Below.refl w.heap.size w)
  have H1 := Aside0.mk h1; clear h1
  have HR0 := Aside0.mk hr0; have HC0 := Aside0.mk hc0; have HR1 := Aside0.mk hr1; have HC1 := Aside0.mk hc1; have HR2 := Aside0.mk hr2; have HC2 := Aside0.mk hc2; clear hr0 hc0 hr1 hc1 hr2 hc2
  by_cases h0_ : l0.length > 100
  · have c0_ : decide (100 < (l0.length : Int)) = true := decide_eq_true (by omega)
    have c1_ : decide ((l0.length : Int) > 100) = true := decide_eq_true (by omega)
    clear g0 g1 g2
    go_enter Try.func9, Try.ntmps9
    go_wp2_with (first | (go_at_call 10; refine (contralaw04_writes.calls k1 true _ H1.out).mono ?_; rintro e w1 ⟨rfl, hb⟩; have B1 := Aside0.mk (below_step HB.out hb); clear hb))
    go_ret
    exact ⟨rfl, B1.out⟩
  have c0a_ : decide (100 < (l0.length : Int)) = false := decide_eq_false (by omega)
  have c0b_ : decide ((l0.length : Int) > 100) = false := decide_eq_false (by omega)
  have HL0 := Aside0.mk (show l0.length ≤ 100 by omega)
  clear h0_
  by_cases h1_ : l1.length > 100
  · have c0_ : decide (100 < (l1.length : Int)) = true := decide_eq_true (by omega)
    have c1_ : decide ((l1.length : Int) > 100) = true := decide_eq_true (by omega)
    clear g0 g1 g2
    go_enter Try.func9, Try.ntmps9
    go_wp2_with (first | (go_at_call 10; refine (contralaw04_writes.calls k1 true _ H1.out).mono ?_; rintro e w1 ⟨rfl, hb⟩; have B1 := Aside0.mk (below_step HB.out hb); clear hb))
    go_ret
    exact ⟨rfl, B1.out⟩
  have c1a_ : decide (100 < (l1.length : Int)) = false := decide_eq_false (by omega)
  have c1b_ : decide ((l1.length : Int) > 100) = false := decide_eq_false (by omega)
  have HL1 := Aside0.mk (show l1.length ≤ 100 by omega)
  clear h1_
  by_cases h2_ : l2.length > 5000
  · have c0_ : decide (5000 < (l2.length : Int)) = true := decide_eq_true (by omega)
    have c1_ : decide ((l2.length : Int) > 5000) = true := decide_eq_true (by omega)
    clear g0 g1 g2
    go_enter Try.func9, Try.ntmps9
    go_wp2_with (first | (go_at_call 10; refine (contralaw04_writes.calls k1 true _ H1.out).mono ?_; rintro e w1 ⟨rfl, hb⟩; have B1 := Aside0.mk (below_step HB.out hb); clear hb))
    go_ret
    exact ⟨rfl, B1.out⟩
  have c2a_ : decide (5000 < (l2.length : Int)) = false := decide_eq_false (by omega)
  have c2b_ : decide ((l2.length : Int) > 5000) = false := decide_eq_false (by omega)
  have HL2 := Aside0.mk (show l2.length ≤ 5000 by omega)
  clear h2_
  have hi : I64 (l2.length : Int) := by have := HL2.out; unfold I64; omega
  have hp := enc_pos (l2.length : Int)
  have h10 := enc_len hi
  obtain ⟨T, hT⟩ : ∃ T, T = pre l0 l1 l0.length ++ enc (l2.length : Int) ++ l2 := ⟨_, rfl⟩
  have hT2 : T = pre l0 l1 l0.length ++ (enc (l2.length : Int) ++ l2) := by rw [hT, List.append_assoc]
  have hpl := pre_len (ys := l1) hn l0.length (Nat.le_refl _)
  have hTl : T.length = (pre l0 l1 l0.length).length + ((enc (l2.length : Int)).length + l2.length) := by rw [hT2, List.length_append, List.length_append]
  have hTs : T.length ≤ 10000 := by have := HL0.out; have := HL2.out; omega
  have hTb : Bytes T := fun x hx => by
    rw [hT] at hx
    rcases List.mem_append.mp hx with q | q
    · rcases List.mem_append.mp q with q | q
      · exact pre_bytes (ns := l0) (ys := l1) _ x q
      · exact enc_bytes _ x q
    · exact hB2 x q
  obtain ⟨k2, h2⟩ := (bytes_ev (pre l0 l1 l0.length) l2 (by omega)).rounds
  rw [← hT] at h2
  have H2 := Aside0.mk h2; clear h2
  obtain ⟨k3, h3⟩ := (rd_int_ev (l := T) (by omega) hTb (a := (pre l0 l1 l0.length).length) (by omega) 0 16384).rounds
  have e3 : rdNum T (pre l0 l1 l0.length).length = ((l2.length : Int), (pre l0 l1 l0.length).length + (enc (l2.length : Int)).length, 0) := rdNum_enc hi T l2 _ (by rw [hT2, List.drop_left])
  have e4 : rdInt T (pre l0 l1 l0.length).length 0 16384 = ((l2.length : Int), (pre l0 l1 l0.length).length + (enc (l2.length : Int)).length, 0) := by
    have := HL2.out
    unfold rdInt; rw [e3]; simp only; rw [if_pos trivial, if_pos (by unfold inRange; omega)]
  rw [e4] at h3
  dsimp only at h3
  have HT := Aside0.mk h3; clear h3 e3 e4
  have PT := Aside0.mk (show (((pre l0 l1 l0.length).length + (enc (l2.length : Int)).length : Nat) : Int) + (l2.length : Int) = ((T.length : Nat) : Int) by omega)
  have TT := Aside0.mk (show (T.drop ((pre l0 l1 l0.length).length + (enc (l2.length : Int)).length)).take ((l2.length : Int)).toNat = l2 by rw [hT, ← List.length_append, List.drop_left, Int.toNat_natCast, List.take_length])
  have HE := Aside0.mk (show code_Reader_End.f T ((T.length : Nat) : Int) 0 = some (0, ((T.length : Nat) : Int), 0) by rw [end_f _ _ _ (Nat.le_refl _) (by omega), if_neg (fun q => Nat.lt_irrefl _ q.1)])
  have NUM := Aside0.mk (show ∀ j, j < l0.length → ∃ k, code_Reader_Num.f k T ((pre l0 l1 j).length : Int) 0 = some (rd l0 (j : Int), (((pre l0 l1 j).length + (enc (rd l0 (j : Int))).length : Nat) : Int), 0) by
    intro j hj
    obtain ⟨r, hr⟩ := pre_at (ys := l1) hj (enc (l2.length : Int) ++ l2)
    obtain ⟨k, h⟩ := (rd_num_ev (l := T) (by omega) hTb (a := (pre l0 l1 j).length) (by rw [hT2, hr, List.length_append]; omega)).rounds
    have e := pre_num (ys := l1) hn hj (enc (l2.length : Int) ++ l2)
    rw [← hT2] at e
    rw [e] at h
    exact ⟨k, h⟩)
  have TRU := Aside0.mk (show ∀ j, j < l0.length → j < l1.length → code_Reader_Bool.f T (((pre l0 l1 j).length + (enc (rd l0 (j : Int))).length : Nat) : Int) 0 = some (rdOf false l1 (j : Int), ((pre l0 l1 (j + 1)).length : Int), 0) by
    intro j hj hy
    have e := pre_bool hj hy (enc (l2.length : Int) ++ l2) (by rw [← hT2]; omega)
    rwa [← hT2] at e)
  have WR := Aside0.mk (show ∀ j, j < l0.length → ∃ k, code_Num.f k (pre l0 l1 j) (rd l0 (j : Int)) = some (pre l0 l1 j ++ enc (rd l0 (j : Int))) by
    intro j hj
    have := pre_len (ys := l1) hn j (by omega)
    have := HL0.out
    exact (num_ev (pre l0 l1 j) (rd l0 (j : Int)) (hn _ (rd_mem hj)) (by omega)).rounds)
  have WB := Aside0.mk (show ∀ j, j < l0.length → j < l1.length → code_Bool.f (pre l0 l1 j ++ enc (rd l0 (j : Int))) (rdOf false l1 (j : Int)) = some (pre l0 l1 (j + 1)) by
    intro j hj hy
    have := pre_len (ys := l1) hn j (by omega)
    have := enc_len (hn _ (rd_mem hj))
    have := HL0.out
    have hl : (pre l0 l1 j ++ enc (rd l0 (j : Int))).length < 140737488355328 := by rw [List.length_append]; omega
    unfold code_Bool.f
    rw [pre]
    unfold piece
    rw [if_pos hy]
    unfold yb
    cases rdOf false l1 (j : Int)
    · rw [if_neg (by simp), if_pos hl, List.append_assoc]; rfl
    · rw [if_pos rfl, if_pos hl, List.append_assoc]; rfl)
  have WN := Aside0.mk (show ∀ j, ¬ j < l1.length → pre l0 l1 (j + 1) = pre l0 l1 j ++ enc (rd l0 (j : Int)) by
    intro j hy
    rw [pre]; unfold piece; rw [if_neg hy])
  have HTl := Aside0.mk hTs
  have CL := Aside0.mk (fun ad h1 h2 => C_lt (ad := ad) HR2.out h1 h2)
  clear hn hB2 hT hT2 hpl hTl hTs hTb hi hp h10 g0 g1 g2
  go_enter Try.func9, Try.ntmps9
  go_wp2_with fail
  refine (contralaw04_writes.calls k1 true _ H1.out).mono ?_; rintro e w1 ⟨rfl, hb⟩; have B1 := Aside0.mk (below_step HB.out hb); clear hb HB
  go_wp2_with fail
  go_loopg [7, 30] (l0.length + 1) (fun kq v7 v30 w' => ∃ (i : Nat), v30 = .int .i64 (i : Int) ∧ Aside0 (i ≤ l0.length ∧ i + kq = l0.length + 1) ∧ Aside0 (Kd.R (Kd.int .u8) 5 w' w.heap.size (fun k => w.heap.size ≤ k) v7 (pre l0 l1 i)) ∧ Aside0 (Below w.heap.size w w'))
  case atStart => exact ⟨0, rfl, ⟨by omega, by omega⟩, ⟨Kd.R_nil _ _ _ _ _⟩, ⟨B1.out⟩⟩
  case round =>
    obtain ⟨i, rfl, HI, HO, HBw⟩ := hrel
    by_cases hi : i < l0.length
    · have d1 : decide ((i : Int) < (l0.length : Int)) = true := decide_eq_true (by omega)
      have hi0 : (0 : Int) ≤ (i : Int) := by omega
      have hi1 : (i : Int) < (l0.length : Int) := by omega
      obtain ⟨ad0, rfl⟩ := at_some HR0.out (by omega)
      have hx := at_intA (Kd.C_below HR0.out HBw.out) (i : Int) hi0 hi1
      rw [Int.toNat_natCast] at hx
      obtain ⟨kn, hkn⟩ := WR.out i hi
      have HN := Aside0.mk hkn
      have b2 : wrap64 ((i : Int) + 1) = ((i + 1 : Nat) : Int) := by have := HL0.out; unfold wrap64; omega
      have q1 := eq_true hi0
      have q2 := eq_true hi1
      have q3 : decide ((0 : Int) ≤ (i : Int)) = true := decide_eq_true hi0
      have HII := Aside0.mk hi
      have NK := Aside0.mk (show (i + 1 ≤ l0.length ∧ i + 1 + (gk - 1) = l0.length + 1) ∧ 0 < gk by have := HI.out; omega)
      clear hkn hi
      go_wp2_with fail
      refine (code_Num.calls kn (fun k => w.heap.size ≤ k) _ (pre l0 l1 i) _ _ w wr HBw.out HO.out HN.out).mono ?_; rintro e wa ⟨va, rfl, ho, hb, hkp⟩; have Ba := Aside0.mk hb; have Oa := Aside0.mk (Kd.R_mono ho (ok' := fun k => w.heap.size ≤ k) (fun k hk => hk.elim id (fun q => Nat.le_trans HBw.out.size q))); clear ho hb hkp
      by_cases hy : i < l1.length
      · have d2 : decide ((i : Int) < (l1.length : Int)) = true := decide_eq_true (by omega)
        have hi2 : (i : Int) < (l1.length : Int) := by omega
        have q4 := eq_true hi2
        obtain ⟨ad1, rfl⟩ := at_some HR1.out (by omega)
        have hx2 := at_boolA (Kd.C_below HR1.out Ba.out) (i : Int) hi0 hi2
        rw [Int.toNat_natCast] at hx2
        have HBl := Aside0.mk (WB.out i HII.out hy)
        clear hy
        go_wp2_with fail
        refine (code_Bool.calls (fun k => w.heap.size ≤ k) va _ _ _ w wa Ba.out Oa.out HBl.out).mono ?_; rintro e wb ⟨vb, rfl, ho, hb, hkp⟩; have Bb := Aside0.mk hb; have Ob := Aside0.mk (Kd.R_mono ho (ok' := fun k => w.heap.size ≤ k) (fun k hk => hk.elim id (fun q => Nat.le_trans Ba.out.size q))); clear ho hb hkp
        go_wp2_with fail
        go_roundg (gk - 1)
        case measure => have := NK.out.2; omega
        case rel => exact ⟨i + 1, by rw [b2], ⟨NK.out.1⟩, Ob, Bb⟩
      · have d2 : decide ((i : Int) < (l1.length : Int)) = false := decide_eq_false (by omega)
        have d3 : decide (i < l1.length) = false := decide_eq_false (by omega)
        have q4 := eq_false (show ¬ (i : Int) < (l1.length : Int) by omega)
        have HW := Aside0.mk (WN.out i hy)
        clear hy
        go_wp2_with fail
        go_roundg (gk - 1)
        case measure => have := NK.out.2; omega
        case rel => exact ⟨i + 1, by rw [b2], ⟨NK.out.1⟩, ⟨by rw [HW.out]; exact Oa.out⟩, Ba⟩
    · have d1 : decide ((i : Int) < (l0.length : Int)) = false := decide_eq_false (by omega)
      obtain rfl : i = l0.length := by have := HI.out; omega
      clear hi
      go_wp2_with fail
      refine (code_Bytes.calls k2 (fun k => w.heap.size ≤ k) _ (pre l0 l1 l0.length) A2 c2 l2 _ w _ HBw.out HO.out (fun W hk => C_move (Kd.C_below HR2.out HBw.out) (fun ad h1 h2 => hk.2 ad.block (Nat.lt_of_lt_of_le (CL.out ad h1 h2) HBw.out.size) (fun q => absurd (CL.out ad h1 h2) (Nat.not_lt.mpr q)))) HC2.out H2.out).mono ?_; rintro e w4 ⟨v4, rfl, ho, hb, hkp⟩; have B4 := Aside0.mk hb; obtain ⟨A4, c4, e4, hc4, hr4⟩ := Kd.R_reads ho; subst e4; have R4 := Aside0.mk hr4; have C4 := Aside0.mk hc4; clear ho hb hkp hr4 hc4
      go_wp2_with fail
      refine (code_Read.callsm rfl R4.out C4.out (by have := HTl.out; omega)).mono ?_; rintro e w5 ⟨g, rfl, hg, hR, hb⟩; have B5 := Aside0.mk (below_step B4.out hb); have R5 := Aside0.mk hR.zero; have G5 := Aside0.mk (Nat.le_trans B4.out.size hg); clear hg hR hb
      go_wp2_with fail
      go_loopg [56] (l0.length + 1) (fun kq v56 w' => ∃ (j : Nat), v56 = .int .i64 (j : Int) ∧ Aside0 (j ≤ l0.length ∧ j + kq = l0.length + 1) ∧ Aside0 (IsR 0 w' g T ((pre l0 l1 j).length : Int) 0) ∧ Aside0 (Below w.heap.size w w'))
      case atStart => exact ⟨0, rfl, ⟨by omega, by omega⟩, R5, B5⟩
      case round =>
        obtain ⟨j, rfl, HJ, HRv, HBv⟩ := hrel
        by_cases hj : j < l0.length
        · have d1 : decide ((j : Int) < (l0.length : Int)) = true := decide_eq_true (by omega)
          have hj0 : (0 : Int) ≤ (j : Int) := by omega
          have hj1 : (j : Int) < (l0.length : Int) := by omega
          obtain ⟨ad0, rfl⟩ := at_some HR0.out (by omega)
          have hx := at_intA (Kd.C_below HR0.out HBv.out) (j : Int) hj0 hj1
          rw [Int.toNat_natCast] at hx
          obtain ⟨kn, hkn⟩ := NUM.out j hj
          have HN := Aside0.mk hkn
          have b2 : wrap64 ((j : Int) + 1) = ((j + 1 : Nat) : Int) := by have := HL0.out; unfold wrap64; omega
          have q1 := eq_true hj0
          have q2 := eq_true hj1
          have q3 : decide ((0 : Int) ≤ (j : Int)) = true := decide_eq_true hj0
          have HJJ := Aside0.mk hj
          have NK := Aside0.mk (show (j + 1 ≤ l0.length ∧ j + 1 + (gk - 1) = l0.length + 1) ∧ 0 < gk by have := HJ.out; omega)
          clear hkn hj
          go_wp2_with fail
          by_cases hy : j < l1.length
          · have d2 : decide ((j : Int) < (l1.length : Int)) = true := decide_eq_true (by omega)
            have hjy : (j : Int) < (l1.length : Int) := by omega
            have q4 := eq_true hjy
            obtain ⟨ad1, rfl⟩ := at_some HR1.out (by omega)
            have HY := Aside0.mk (TRU.out j HJJ.out hy)
            clear hy
--REGA
            refine start_ (n := 19) (S := fun w' => w'.cell? (ad1.add j) = some (.bool (rdOf false l1 (j : Int)))) (ds := []) #[false, false, false, false, false, false, false, false, false, false, false, false, false, false, false, false, false, false, false] (by kernel_rfl) rfl rfl ((at_boolN (Kd.C_below HR1.out (below_step HBv.out (below_drew (Below.refl _ _)))) j hj0 hjy)) (fun hHeld => ?_)
            refine pure_ (i := 0) (N := some 61) (v := ?_) (a' := ?_) #[true, false, false, false, false, false, false, false, false, false, false, false, false, false, false, false, false, false, false] rfl rfl (by kernel_rfl) (fun _ _ _ h => h) (Or.inl ⟨by rfl, ?_⟩) ?_ ?_
            rotate_left
            · intro w'
              go_simp
              with_reducible rfl
            rotate_left
            · simp only [Act.put, List.setIfInBounds_toArray, List.set_cons_zero, List.set_cons_succ, i64_w, i32_w]
              rfl
            refine pure_ (i := 2) (N := some 63) (v := ?_) (a' := ?_) #[true, false, true, false, false, false, false, false, false, false, false, false, false, false, false, false, false, false, false] rfl rfl (by kernel_rfl) (fun _ _ _ h => h) (Or.inl ⟨by rfl, ?_⟩) ?_ ?_
            rotate_left
            · intro w'
              go_simp
              with_reducible rfl
            rotate_left
            · simp only [Act.put, List.setIfInBounds_toArray, List.set_cons_zero, List.set_cons_succ, i64_w, i32_w]
              rfl
            refine one_ (i := 1) (N := some 62) #[true, true, true, false, false, false, false, false, false, false, false, false, false, false, false, false, false, false, false] rfl rfl (by kernel_rfl) (by decide) (fun K hK => ?_)
            refine goes_ Try.func14 (by kernel_rfl) rfl #[.pointer (some ⟨g, 0, none⟩)] (by rfl) rfl rfl (by simp only [List.map_toArray, List.map_cons, List.map_nil]; rfl) ?_
            with_reducible refine (rd_Num (w := wr.drew) (HRv.out.below (below_drew (Below.refl _ _))) HN.out).mono ?_
            rintro e w14 ⟨rfl, hR, hb, hk⟩
            refine ⟨_, rfl, ?_⟩
            have B14 := Aside0.mk ((below_step HBv.out (below_drew (Below.refl _ _))).trans (hb.mono G5.out))
            have R14 := Aside0.mk hR
            clear hR hb hk
            refine hK.out _ _ ((at_boolN (Kd.C_below HR1.out (B14.out)) j hj0 hjy)) (fun hHeld => ?_)
            clear hK K
            refine norm_ (a' := ?_) ?_ ?_
            rotate_left
            · show Act.put _ (some 62) _ = _
              simp only [Act.put, List.setIfInBounds_toArray, List.set_cons_zero, List.set_cons_succ, i64_w, i32_w]
              rfl
            refine pure_ (i := 3) (N := some 64) (v := ?_) (a' := ?_) #[true, true, true, true, false, false, false, false, false, false, false, false, false, false, false, false, false, false, false] rfl rfl (by kernel_rfl) (fun _ _ _ h => h) (Or.inl ⟨by rfl, ?_⟩) ?_ ?_
            rotate_left
            · intro w'
              go_simp
              with_reducible rfl
            rotate_left
            · simp only [Act.put, List.setIfInBounds_toArray, List.set_cons_zero, List.set_cons_succ, i64_w, i32_w]
              rfl
            refine pure_ (i := 4) (N := some 65) (v := ?_) (a' := ?_) #[true, true, true, true, true, false, false, false, false, false, false, false, false, false, false, false, false, false, false] rfl rfl (by kernel_rfl) (fun _ _ _ h => h) (Or.inl ⟨by rfl, ?_⟩) ?_ ?_
            rotate_left
            · intro w'
              go_simp
              with_reducible rfl
            rotate_left
            · simp only [Act.put, List.setIfInBounds_toArray, List.set_cons_zero, List.set_cons_succ, i64_w, i32_w]
              rfl
            refine pure_ (i := 5) (N := some 66) (v := ?_) (a' := ?_) #[true, true, true, true, true, true, false, false, false, false, false, false, false, false, false, false, false, false, false] rfl rfl (by kernel_rfl) (fun _ _ _ h => h) (Or.inl ⟨by rfl, ?_⟩) ?_ ?_
            rotate_left
            · intro w'
              go_simp
              with_reducible rfl
            rotate_left
            · simp only [Act.put, List.setIfInBounds_toArray, List.set_cons_zero, List.set_cons_succ, i64_w, i32_w]
              rfl
            refine pure_ (i := 6) (N := some 67) (v := ?_) (a' := ?_) #[true, true, true, true, true, true, true, false, false, false, false, false, false, false, false, false, false, false, false] rfl rfl (by kernel_rfl) (fun _ _ _ h => h) (Or.inl ⟨by rfl, ?_⟩) ?_ ?_
            rotate_left
            · intro w'
              go_simp
              with_reducible rfl
            rotate_left
            · simp only [Act.put, List.setIfInBounds_toArray, List.set_cons_zero, List.set_cons_succ, i64_w, i32_w]
              rfl
            refine pure_ (i := 7) (N := some 68) (v := ?_) (a' := ?_) #[true, true, true, true, true, true, true, true, false, false, false, false, false, false, false, false, false, false, false] rfl rfl (by kernel_rfl) (fun _ _ _ h => h) (Or.inl ⟨by rfl, ?_⟩) ?_ ?_
            rotate_left
            · intro w'
              go_simp
              with_reducible rfl
            rotate_left
            · simp only [Act.put, List.setIfInBounds_toArray, List.set_cons_zero, List.set_cons_succ, i64_w, i32_w]
              rfl
            refine pure_ (i := 8) (N := some 69) (v := ?_) (a' := ?_) #[true, true, true, true, true, true, true, true, true, false, false, false, false, false, false, false, false, false, false] rfl rfl (by kernel_rfl) (fun _ _ _ h => h) (Or.inl ⟨by rfl, ?_⟩) ?_ ?_
            rotate_left
            · intro w'
              go_simp
              with_reducible rfl
            rotate_left
            · simp only [Act.put, List.setIfInBounds_toArray, List.set_cons_zero, List.set_cons_succ, i64_w, i32_w]
              rfl
            refine pure_ (i := 9) (N := some 70) (v := ?_) (a' := ?_) #[true, true, true, true, true, true, true, true, true, true, false, false, false, false, false, false, false, false, false] rfl rfl (by kernel_rfl) (fun _ _ _ h => h) (Or.inl ⟨by rfl, ?_⟩) ?_ ?_
            rotate_left
            · intro w'
              go_simp
              with_reducible rfl
            rotate_left
            · simp only [Act.put, List.setIfInBounds_toArray, List.set_cons_zero, List.set_cons_succ, i64_w, i32_w]
              rfl
            refine pure_ (i := 10) (N := some 71) (v := ?_) (a' := ?_) #[true, true, true, true, true, true, true, true, true, true, true, false, false, false, false, false, false, false, false] rfl rfl (by kernel_rfl) (fun _ _ _ h => h) (Or.inl ⟨by rfl, ?_⟩) ?_ ?_
            rotate_left
            · intro w'
              go_simp
              with_reducible rfl
            rotate_left
            · simp only [Act.put, List.setIfInBounds_toArray, List.set_cons_zero, List.set_cons_succ, i64_w, i32_w]
              rfl
            refine pure_ (i := 12) (N := some 73) (v := ?_) (a' := ?_) #[true, true, true, true, true, true, true, true, true, true, true, false, true, false, false, false, false, false, false] rfl rfl (by kernel_rfl) (fun _ _ _ h => h) (Or.inl ⟨by rfl, ?_⟩) ?_ ?_
            rotate_left
            · intro w'
              go_simp
              with_reducible rfl
            rotate_left
            · simp only [Act.put, List.setIfInBounds_toArray, List.set_cons_zero, List.set_cons_succ, i64_w, i32_w]
              rfl
            refine pure_ (i := 13) (N := some 74) (v := ?_) (a' := ?_) #[true, true, true, true, true, true, true, true, true, true, true, false, true, true, false, false, false, false, false] rfl rfl (by kernel_rfl) (fun _ _ _ h => h) (Or.inl ⟨by rfl, ?_⟩) ?_ ?_
            rotate_left
            · intro w'
              go_simp
              with_reducible rfl
            rotate_left
            · simp only [Act.put, List.setIfInBounds_toArray, List.set_cons_zero, List.set_cons_succ, i64_w, i32_w]
              rfl
            refine pure_ (i := 14) (N := some 75) (v := ?_) (a' := ?_) #[true, true, true, true, true, true, true, true, true, true, true, false, true, true, true, false, false, false, false] rfl rfl (by kernel_rfl) (fun _ _ _ h => h) (Or.inl ⟨by rfl, ?_⟩) ?_ ?_
            rotate_left
            · intro w'
              go_simp
              with_reducible rfl
            rotate_left
            · simp only [Act.put, List.setIfInBounds_toArray, List.set_cons_zero, List.set_cons_succ, i64_w, i32_w]
              rfl
            refine take_ (i := 15) (N := some 76) (v := ?_) (a' := ?_) #[true, true, true, true, true, true, true, true, true, true, true, false, true, true, true, true, false, false, false] rfl rfl (by kernel_rfl) (fun _ _ _ h => h) (Or.inl ⟨by rfl, ?_⟩) hHeld ?_ ?_
            rotate_left
            · intro w' s0
              go_simp
              with_reducible rfl
            rotate_left
            · simp only [Act.put, List.setIfInBounds_toArray, List.set_cons_zero, List.set_cons_succ, i64_w, i32_w]
              rfl
            refine one_ (i := 11) (N := some 72) #[true, true, true, true, true, true, true, true, true, true, true, true, true, true, true, true, false, false, false] rfl rfl (by kernel_rfl) (by decide) (fun K hK => ?_)
            refine goes_ Try.func24 (by kernel_rfl) rfl #[.pointer (some ⟨g, 0, none⟩)] (by rfl) rfl rfl (by simp only [List.map_toArray, List.map_cons, List.map_nil]; rfl) ?_
            with_reducible refine (rd_Bool R14.out HY.out).mono ?_
            rintro e w15 ⟨rfl, hR, hb, hk⟩
            refine ⟨_, rfl, ?_⟩
            have B15 := Aside0.mk (B14.out.trans (hb.mono G5.out))
            have R15 := Aside0.mk hR
            clear hR hb hk
            refine hK.out _ _ ((at_boolN (Kd.C_below HR1.out (B15.out)) j hj0 hjy)) (fun hHeld => ?_)
            clear hK K
            refine norm_ (a' := ?_) ?_ ?_
            rotate_left
            · show Act.put _ (some 72) _ = _
              simp only [Act.put, List.setIfInBounds_toArray, List.set_cons_zero, List.set_cons_succ, i64_w, i32_w]
              rfl
            refine pure_ (i := 16) (N := some 77) (v := ?_) (a' := ?_) #[true, true, true, true, true, true, true, true, true, true, true, true, true, true, true, true, true, false, false] rfl rfl (by kernel_rfl) (fun _ _ _ h => h) (Or.inl ⟨by rfl, ?_⟩) ?_ ?_
            rotate_left
            · intro w'
              go_simp
              with_reducible rfl
            rotate_left
            · simp only [Act.put, List.setIfInBounds_toArray, List.set_cons_zero, List.set_cons_succ, i64_w, i32_w]
              rfl
            refine pure_ (i := 17) (N := some 78) (v := ?_) (a' := ?_) #[true, true, true, true, true, true, true, true, true, true, true, true, true, true, true, true, true, true, false] rfl rfl (by kernel_rfl) (fun _ _ _ h => h) (Or.inl ⟨by rfl, ?_⟩) ?_ ?_
            rotate_left
            · intro w'
              go_simp
              with_reducible rfl
            rotate_left
            · simp only [Act.put, List.setIfInBounds_toArray, List.set_cons_zero, List.set_cons_succ, i64_w, i32_w]
              rfl
            refine pure_ (i := 18) (N := some 79) (v := ?_) (a' := ?_) #[true, true, true, true, true, true, true, true, true, true, true, true, true, true, true, true, true, true, true] rfl rfl (by kernel_rfl) (fun _ _ _ h => h) (Or.inl ⟨by rfl, ?_⟩) ?_ ?_
            rotate_left
            · intro w'
              go_simp
              with_reducible rfl
            rotate_left
            · simp only [Act.put, List.setIfInBounds_toArray, List.set_cons_zero, List.set_cons_succ, i64_w, i32_w]
              rfl
            refine done_ (by kernel_rfl) ?_
--ENDA
            go_wp2
            go_roundg (gk - 1)
            case measure => have := NK.out.2; omega
            case rel => exact ⟨j + 1, by rw [b2], ⟨NK.out.1⟩, R15, B15⟩
          · have d2 : decide ((j : Int) < (l1.length : Int)) = false := decide_eq_false (by omega)
            have d3 : decide (j < l1.length) = false := decide_eq_false (by omega)
            have q4 := eq_false (show ¬ (j : Int) < (l1.length : Int) by omega)
            have HW := Aside0.mk (pre_next (ns := l0) hy)
            clear hy
--REGB
            refine start_ (n := 19) (S := fun w' => True) (ds := []) #[false, false, false, false, false, false, false, false, false, false, false, false, false, false, false, false, false, false, false] (by kernel_rfl) rfl rfl trivial (fun hHeld => ?_)
            refine pure_ (i := 0) (N := some 61) (v := ?_) (a' := ?_) #[true, false, false, false, false, false, false, false, false, false, false, false, false, false, false, false, false, false, false] rfl rfl (by kernel_rfl) (fun _ _ _ h => h) (Or.inl ⟨by rfl, ?_⟩) ?_ ?_
            rotate_left
            · intro w'
              go_simp
              with_reducible rfl
            rotate_left
            · simp only [Act.put, List.setIfInBounds_toArray, List.set_cons_zero, List.set_cons_succ, i64_w, i32_w]
              rfl
            refine pure_ (i := 2) (N := some 63) (v := ?_) (a' := ?_) #[true, false, true, false, false, false, false, false, false, false, false, false, false, false, false, false, false, false, false] rfl rfl (by kernel_rfl) (fun _ _ _ h => h) (Or.inl ⟨by rfl, ?_⟩) ?_ ?_
            rotate_left
            · intro w'
              go_simp
              with_reducible rfl
            rotate_left
            · simp only [Act.put, List.setIfInBounds_toArray, List.set_cons_zero, List.set_cons_succ, i64_w, i32_w]
              rfl
            refine one_ (i := 1) (N := some 62) #[true, true, true, false, false, false, false, false, false, false, false, false, false, false, false, false, false, false, false] rfl rfl (by kernel_rfl) (by decide) (fun K hK => ?_)
            refine goes_ Try.func14 (by kernel_rfl) rfl #[.pointer (some ⟨g, 0, none⟩)] (by rfl) rfl rfl (by simp only [List.map_toArray, List.map_cons, List.map_nil]; rfl) ?_
            with_reducible refine (rd_Num (w := wr.drew) (HRv.out.below (below_drew (Below.refl _ _))) HN.out).mono ?_
            rintro e w14 ⟨rfl, hR, hb, hk⟩
            refine ⟨_, rfl, ?_⟩
            have B14 := Aside0.mk ((below_step HBv.out (below_drew (Below.refl _ _))).trans (hb.mono G5.out))
            have R14 := Aside0.mk hR
            clear hR hb hk
            refine hK.out _ _ trivial (fun hHeld => ?_)
            clear hK K
            refine norm_ (a' := ?_) ?_ ?_
            rotate_left
            · show Act.put _ (some 62) _ = _
              simp only [Act.put, List.setIfInBounds_toArray, List.set_cons_zero, List.set_cons_succ, i64_w, i32_w]
              rfl
            refine pure_ (i := 3) (N := some 64) (v := ?_) (a' := ?_) #[true, true, true, true, false, false, false, false, false, false, false, false, false, false, false, false, false, false, false] rfl rfl (by kernel_rfl) (fun _ _ _ h => h) (Or.inl ⟨by rfl, ?_⟩) ?_ ?_
            rotate_left
            · intro w'
              go_simp
              with_reducible rfl
            rotate_left
            · simp only [Act.put, List.setIfInBounds_toArray, List.set_cons_zero, List.set_cons_succ, i64_w, i32_w]
              rfl
            refine pure_ (i := 4) (N := some 65) (v := ?_) (a' := ?_) #[true, true, true, true, true, false, false, false, false, false, false, false, false, false, false, false, false, false, false] rfl rfl (by kernel_rfl) (fun _ _ _ h => h) (Or.inl ⟨by rfl, ?_⟩) ?_ ?_
            rotate_left
            · intro w'
              go_simp
              with_reducible rfl
            rotate_left
            · simp only [Act.put, List.setIfInBounds_toArray, List.set_cons_zero, List.set_cons_succ, i64_w, i32_w]
              rfl
            refine pure_ (i := 5) (N := some 66) (v := ?_) (a' := ?_) #[true, true, true, true, true, true, false, false, false, false, false, false, false, false, false, false, false, false, false] rfl rfl (by kernel_rfl) (fun _ _ _ h => h) (Or.inl ⟨by rfl, ?_⟩) ?_ ?_
            rotate_left
            · intro w'
              go_simp
              with_reducible rfl
            rotate_left
            · simp only [Act.put, List.setIfInBounds_toArray, List.set_cons_zero, List.set_cons_succ, i64_w, i32_w]
              rfl
            refine pure_ (i := 6) (N := some 67) (v := ?_) (a' := ?_) #[true, true, true, true, true, true, true, false, false, false, false, false, false, false, false, false, false, false, false] rfl rfl (by kernel_rfl) (fun _ _ _ h => h) (Or.inl ⟨by rfl, ?_⟩) ?_ ?_
            rotate_left
            · intro w'
              go_simp
              with_reducible rfl
            rotate_left
            · simp only [Act.put, List.setIfInBounds_toArray, List.set_cons_zero, List.set_cons_succ, i64_w, i32_w]
              rfl
            refine pure_ (i := 7) (N := some 68) (v := ?_) (a' := ?_) #[true, true, true, true, true, true, true, true, false, false, false, false, false, false, false, false, false, false, false] rfl rfl (by kernel_rfl) (fun _ _ _ h => h) (Or.inl ⟨by rfl, ?_⟩) ?_ ?_
            rotate_left
            · intro w'
              go_simp
              with_reducible rfl
            rotate_left
            · simp only [Act.put, List.setIfInBounds_toArray, List.set_cons_zero, List.set_cons_succ, i64_w, i32_w]
              rfl
            refine pure_ (i := 8) (N := some 69) (v := ?_) (a' := ?_) #[true, true, true, true, true, true, true, true, true, false, false, false, false, false, false, false, false, false, false] rfl rfl (by kernel_rfl) (fun _ _ _ h => h) (Or.inl ⟨by rfl, ?_⟩) ?_ ?_
            rotate_left
            · intro w'
              go_simp
              with_reducible rfl
            rotate_left
            · simp only [Act.put, List.setIfInBounds_toArray, List.set_cons_zero, List.set_cons_succ, i64_w, i32_w]
              rfl
            refine pure_ (i := 9) (N := some 70) (v := ?_) (a' := ?_) #[true, true, true, true, true, true, true, true, true, true, false, false, false, false, false, false, false, false, false] rfl rfl (by kernel_rfl) (fun _ _ _ h => h) (Or.inl ⟨by rfl, ?_⟩) ?_ ?_
            rotate_left
            · intro w'
              go_simp
              with_reducible rfl
            rotate_left
            · simp only [Act.put, List.setIfInBounds_toArray, List.set_cons_zero, List.set_cons_succ, i64_w, i32_w]
              rfl
            refine pure_ (i := 10) (N := some 71) (v := undef) (a' := ?_) #[true, true, true, true, true, true, true, true, true, true, true, false, false, false, false, false, false, false, false] rfl rfl (by kernel_rfl) (fun _ _ _ h => h) (Or.inr ⟨by rfl, rfl⟩) ?_ ?_
            rotate_left
            · simp only [Act.put, List.setIfInBounds_toArray, List.set_cons_zero, List.set_cons_succ, i64_w, i32_w]
              rfl
            refine pure_ (i := 11) (N := some 72) (v := undef) (a' := ?_) #[true, true, true, true, true, true, true, true, true, true, true, true, false, false, false, false, false, false, false] rfl rfl (by kernel_rfl) (fun _ _ _ h => h) (Or.inr ⟨by rfl, rfl⟩) ?_ ?_
            rotate_left
            · simp only [Act.put, List.setIfInBounds_toArray, List.set_cons_zero, List.set_cons_succ, i64_w, i32_w]
              rfl
            refine pure_ (i := 12) (N := some 73) (v := undef) (a' := ?_) #[true, true, true, true, true, true, true, true, true, true, true, true, true, false, false, false, false, false, false] rfl rfl (by kernel_rfl) (fun _ _ _ h => h) (Or.inr ⟨by rfl, rfl⟩) ?_ ?_
            rotate_left
            · simp only [Act.put, List.setIfInBounds_toArray, List.set_cons_zero, List.set_cons_succ, i64_w, i32_w]
              rfl
            refine pure_ (i := 13) (N := some 74) (v := undef) (a' := ?_) #[true, true, true, true, true, true, true, true, true, true, true, true, true, true, false, false, false, false, false] rfl rfl (by kernel_rfl) (fun _ _ _ h => h) (Or.inr ⟨by rfl, rfl⟩) ?_ ?_
            rotate_left
            · simp only [Act.put, List.setIfInBounds_toArray, List.set_cons_zero, List.set_cons_succ, i64_w, i32_w]
              rfl
            refine pure_ (i := 14) (N := some 75) (v := undef) (a' := ?_) #[true, true, true, true, true, true, true, true, true, true, true, true, true, true, true, false, false, false, false] rfl rfl (by kernel_rfl) (fun _ _ _ h => h) (Or.inr ⟨by rfl, rfl⟩) ?_ ?_
            rotate_left
            · simp only [Act.put, List.setIfInBounds_toArray, List.set_cons_zero, List.set_cons_succ, i64_w, i32_w]
              rfl
            refine pure_ (i := 15) (N := some 76) (v := undef) (a' := ?_) #[true, true, true, true, true, true, true, true, true, true, true, true, true, true, true, true, false, false, false] rfl rfl (by kernel_rfl) (fun _ _ _ h => h) (Or.inr ⟨by rfl, rfl⟩) ?_ ?_
            rotate_left
            · simp only [Act.put, List.setIfInBounds_toArray, List.set_cons_zero, List.set_cons_succ, i64_w, i32_w]
              rfl
            refine pure_ (i := 16) (N := some 77) (v := undef) (a' := ?_) #[true, true, true, true, true, true, true, true, true, true, true, true, true, true, true, true, true, false, false] rfl rfl (by kernel_rfl) (fun _ _ _ h => h) (Or.inr ⟨by rfl, rfl⟩) ?_ ?_
            rotate_left
            · simp only [Act.put, List.setIfInBounds_toArray, List.set_cons_zero, List.set_cons_succ, i64_w, i32_w]
              rfl
            refine pure_ (i := 17) (N := some 78) (v := ?_) (a' := ?_) #[true, true, true, true, true, true, true, true, true, true, true, true, true, true, true, true, true, true, false] rfl rfl (by kernel_rfl) (fun _ _ _ h => h) (Or.inl ⟨by rfl, ?_⟩) ?_ ?_
            rotate_left
            · intro w'
              go_simp
              with_reducible rfl
            rotate_left
            · simp only [Act.put, List.setIfInBounds_toArray, List.set_cons_zero, List.set_cons_succ, i64_w, i32_w]
              rfl
            refine pure_ (i := 18) (N := some 79) (v := ?_) (a' := ?_) #[true, true, true, true, true, true, true, true, true, true, true, true, true, true, true, true, true, true, true] rfl rfl (by kernel_rfl) (fun _ _ _ h => h) (Or.inl ⟨by rfl, ?_⟩) ?_ ?_
            rotate_left
            · intro w'
              go_simp
              with_reducible rfl
            rotate_left
            · simp only [Act.put, List.setIfInBounds_toArray, List.set_cons_zero, List.set_cons_succ, i64_w, i32_w]
              rfl
            refine done_ (by kernel_rfl) ?_
--ENDB
            go_wp2
            go_roundg (gk - 1)
            case measure => have := NK.out.2; omega
            case rel => exact ⟨j + 1, by rw [b2], ⟨NK.out.1⟩, ⟨by rw [HW.out]; exact R14.out⟩, B14⟩
        · have d1 : decide ((j : Int) < (l0.length : Int)) = false := decide_eq_false (by omega)
          obtain rfl : j = l0.length := by have := HJ.out; omega
          clear hj
          go_wp2_with fail
--REGE
          refine start_ (n := 12) (S := fun w' => (convert 22 9 (.slice A2 l2.length c2)).run Try.prog w' = .ok (.string (strOfNums l2)) w') (ds := []) #[false, false, false, false, false, false, false, false, false, false, false, false] (by kernel_rfl) rfl rfl ((Kd.C_string (P := Try.prog) (c := c2) Try.underlying22 Try.underlying5 Try.underlying9 (Kd.C_below HR2.out (below_step HBv.out (below_drew (Below.refl _ _)))))) (fun hHeld => ?_)
          refine pure_ (i := 0) (N := some 81) (v := ?_) (a' := ?_) #[true, false, false, false, false, false, false, false, false, false, false, false] rfl rfl (by kernel_rfl) (fun _ _ _ h => h) (Or.inl ⟨by rfl, ?_⟩) ?_ ?_
          rotate_left
          · intro w'
            go_simp
            with_reducible rfl
          rotate_left
          · simp only [Act.put, List.setIfInBounds_toArray, List.set_cons_zero, List.set_cons_succ, i64_w, i32_w]
            rfl
          refine pure_ (i := 3) (N := some 84) (v := ?_) (a' := ?_) #[true, false, false, true, false, false, false, false, false, false, false, false] rfl rfl (by kernel_rfl) (fun _ _ _ h => h) (Or.inl ⟨by rfl, ?_⟩) ?_ ?_
          rotate_left
          · intro w'
            go_simp
            with_reducible rfl
          rotate_left
          · simp only [Act.put, List.setIfInBounds_toArray, List.set_cons_zero, List.set_cons_succ, i64_w, i32_w]
            rfl
          refine take_ (i := 4) (N := some 85) (v := ?_) (a' := ?_) #[true, false, false, true, true, false, false, false, false, false, false, false] rfl rfl (by kernel_rfl) (fun _ _ _ h => h) (Or.inl ⟨by rfl, ?_⟩) hHeld ?_ ?_
          rotate_left
          · intro w' s0
            go_simp
            with_reducible rfl
          rotate_left
          · simp only [Act.put, List.setIfInBounds_toArray, List.set_cons_zero, List.set_cons_succ, i64_w, i32_w]
            rfl
          refine one_ (i := 1) (N := some 82) #[true, true, false, true, true, false, false, false, false, false, false, false] rfl rfl (by kernel_rfl) (by decide) (fun K hK => ?_)
          refine goes_ Try.func20 (by kernel_rfl) rfl #[.pointer (some ⟨g, 0, none⟩)] (by rfl) rfl rfl (by simp only [List.map_toArray, List.map_cons, List.map_nil]; rfl) ?_
          with_reducible refine (rd_Bytes_ok (w := wr.drew) (HRv.out.below (below_drew (Below.refl _ _))) HT.out (by omega) (by have := PT.out; omega) (by have := HTl.out; omega)).mono ?_
          rintro x w14 ⟨v14, rfl, ho, hR, hb, hk⟩
          refine ⟨_, rfl, ?_⟩
          have B14 := Aside0.mk ((below_step HBv.out (below_drew (Below.refl _ _))).trans (hb.mono G5.out))
          rw [PT.out] at hR
          have R14 := Aside0.mk hR
          rw [TT.out] at ho
          have hcv := own_string (P := Try.prog) Try.underlying22 Try.underlying5 Try.underlying9 (Kd.own_of_R ho)
          clear hR hb hk ho
          refine hK.out _ _ ((Kd.C_string (P := Try.prog) (c := c2) Try.underlying22 Try.underlying5 Try.underlying9 (Kd.C_below HR2.out (B14.out)))) (fun hHeld => ?_)
          clear hK K
          refine norm_ (a' := ?_) ?_ ?_
          rotate_left
          · show Act.put _ (some 82) _ = _
            simp only [Act.put, List.setIfInBounds_toArray, List.set_cons_zero, List.set_cons_succ, i64_w, i32_w]
            rfl
          refine one_ (i := 2) (N := some 83) #[true, true, true, true, true, false, false, false, false, false, false, false] rfl rfl (by kernel_rfl) (by decide) (fun K hK => ?_)
          refine value_ (w1 := ?_) (v := ?_) (by rfl) rfl ?_ ?_
          rotate_left 2
          · go_simp
            constructor
            · rfl
            · rfl
          clear hcv
          refine hK.out _ _ ((Kd.C_string (P := Try.prog) (c := c2) Try.underlying22 Try.underlying5 Try.underlying9 (Kd.C_below HR2.out (B14.out)))) (fun hHeld => ?_)
          clear hK K
          refine norm_ (a' := ?_) ?_ ?_
          rotate_left
          · show Act.put _ (some 83) _ = _
            simp only [Act.put, List.setIfInBounds_toArray, List.set_cons_zero, List.set_cons_succ, i64_w, i32_w]
            rfl
          refine pure_ (i := 5) (N := some 86) (v := ?_) (a' := ?_) #[true, true, true, true, true, true, false, false, false, false, false, false] rfl rfl (by kernel_rfl) (fun _ _ _ h => h) (Or.inl ⟨by rfl, ?_⟩) ?_ ?_
          rotate_left
          · intro w'
            go_simp
            with_reducible rfl
          rotate_left
          · simp only [Act.put, List.setIfInBounds_toArray, List.set_cons_zero, List.set_cons_succ, i64_w, i32_w]
            rfl
          refine pure_ (i := 6) (N := some 87) (v := ?_) (a' := ?_) #[true, true, true, true, true, true, true, false, false, false, false, false] rfl rfl (by kernel_rfl) (fun _ _ _ h => h) (Or.inl ⟨by rfl, ?_⟩) ?_ ?_
          rotate_left
          · intro w'
            go_simp
            with_reducible rfl
          rotate_left
          · simp only [Act.put, List.setIfInBounds_toArray, List.set_cons_zero, List.set_cons_succ, i64_w, i32_w]
            rfl
          refine pure_ (i := 7) (N := some 88) (v := ?_) (a' := ?_) #[true, true, true, true, true, true, true, true, false, false, false, false] rfl rfl (by kernel_rfl) (fun _ _ _ h => h) (Or.inl ⟨by rfl, ?_⟩) ?_ ?_
          rotate_left
          · intro w'
            go_simp
            with_reducible rfl
          rotate_left
          · simp only [Act.put, List.setIfInBounds_toArray, List.set_cons_zero, List.set_cons_succ, i64_w, i32_w]
            rfl
          refine one_ (i := 8) (N := some 89) #[true, true, true, true, true, true, true, true, true, false, false, false] rfl rfl (by kernel_rfl) (by decide) (fun K hK => ?_)
          refine goes_ Try.func17 (by kernel_rfl) rfl #[.pointer (some ⟨g, 0, none⟩)] (by rfl) rfl rfl (by simp only [List.map_toArray, List.map_cons, List.map_nil]; rfl) ?_
          with_reducible refine (rd_End R14.out HE.out).mono ?_
          rintro e w15 ⟨rfl, hR, hb, hk⟩
          refine ⟨_, rfl, ?_⟩
          have B15 := Aside0.mk (B14.out.trans (hb.mono G5.out))
          clear hR hb hk
          refine hK.out _ _ ((Kd.C_string (P := Try.prog) (c := c2) Try.underlying22 Try.underlying5 Try.underlying9 (Kd.C_below HR2.out (B15.out)))) (fun hHeld => ?_)
          clear hK K
          refine norm_ (a' := ?_) ?_ ?_
          rotate_left
          · show Act.put _ (some 89) _ = _
            simp only [Act.put, List.setIfInBounds_toArray, List.set_cons_zero, List.set_cons_succ, i64_w, i32_w]
            rfl
          refine pure_ (i := 9) (N := some 90) (v := ?_) (a' := ?_) #[true, true, true, true, true, true, true, true, true, true, false, false] rfl rfl (by kernel_rfl) (fun _ _ _ h => h) (Or.inl ⟨by rfl, ?_⟩) ?_ ?_
          rotate_left
          · intro w'
            go_simp
            with_reducible rfl
          rotate_left
          · simp only [Act.put, List.setIfInBounds_toArray, List.set_cons_zero, List.set_cons_succ, i64_w, i32_w]
            rfl
          refine pure_ (i := 10) (N := some 91) (v := ?_) (a' := ?_) #[true, true, true, true, true, true, true, true, true, true, true, false] rfl rfl (by kernel_rfl) (fun _ _ _ h => h) (Or.inl ⟨by rfl, ?_⟩) ?_ ?_
          rotate_left
          · intro w'
            go_simp
            with_reducible rfl
          rotate_left
          · simp only [Act.put, List.setIfInBounds_toArray, List.set_cons_zero, List.set_cons_succ, i64_w, i32_w]
            rfl
          refine pure_ (i := 11) (N := some 6) (v := ?_) (a' := ?_) #[true, true, true, true, true, true, true, true, true, true, true, true] rfl rfl (by kernel_rfl) (fun _ _ _ h => h) (Or.inl ⟨by rfl, ?_⟩) ?_ ?_
          rotate_left
          · intro w'
            go_simp
            with_reducible rfl
          rotate_left
          · simp only [Act.put, List.setIfInBounds_toArray, List.set_cons_zero, List.set_cons_succ, i64_w, i32_w]
            rfl
          refine done_ (by kernel_rfl) ?_
--ENDE
          go_wp2
          go_ret
          exact ⟨rfl, B15.out⟩
end Go.Proofs.Ytpbchkgahjafeaa.Pure
