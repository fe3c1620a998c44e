/-
  WholeTorn, walked by hand: numbers written as records to a log of which the last is torn at any byte: what is opened is all whole records ahead of that.
-/
import Derived.Test.YthpdmjpimeibnaaPTornT
import Derived.Test.YthpdmjpimeibnaaHLogs
import Derived.Test.YthpdmjpimeibnaaOReaderR6
import Derived.Test.YthpdmjpimeibnaaRowWholeTorn
namespace Go.Proofs.Ythpdmjpimeibnaa.Pure
open Go.RowKit Go.Proofs.Ythpdmjpimeibnaa.M Go.Proofs.YthpdmjpimeibnaaW.PrintWords Go.Proofs.YthpdmjpimeibnaaW.PrintLast Go.Proofs.YthpdmjpimeibnaaW.PrintMore
set_option linter.unusedVariables false
set_option linter.unusedSimpArgs false
/-- the disk with the first i numbers, of which the last of n is not sure -/
def dskT (l : List Int) (i : Nat) : DS := ⟨65536, Frame.all ((l.take (min i (l.length - 1))).map Code.enc), Frame.all ((l.take i).map Code.enc), false, false, -1⟩
theorem nk_ {i n gk : Nat} (hi : i < n) (h : i + gk = n + 1) : (i + 1 ≤ n ∧ i + 1 + (gk - 1) = n + 1) ∧ 0 < gk := by omega
theorem kept_below6 {w0 w w' : World} (hb : Below w0.heap.size w0 w') (hk : Kept w w' (fun _ => False)) (h0 : Below w0.heap.size w0 w) : Below w.heap.size w w' := ⟨hb.os.trans h0.os.symm, hb.tape.trans h0.tape.symm, hb.output.trans h0.output.symm, hk.1, fun k h => hk.2 k h id⟩
set_option maxHeartbeats 8000000 in
set_option maxRecDepth 100000 in
theorem WholeTorn_hand (A0 : Option Addr) (c0 : Nat) (l0 : List Int) (keep turn : Int) (w : World)
    (hr0 : Kd.C (Kd.int .i64) w A0 l0.length l0) (hc0 : l0.length ≤ c0)
    (g0 : l0.length * 8 ≤ 140737488351232 ∧ ∀ x ∈ l0, (Lit.int .i64 x).wf = true) (g1 : (Lit.int .i64 keep).wf = true) (g2 : (Lit.int .u8 turn).wf = true) :
    Calls Try.prog 11 #[.slice A0 l0.length c0, .int .i64 keep, .int .u8 turn] w fun e w' => e = .returned (.bool true) ∧ Below w.heap.size w w' := by
  have hN : ∀ x ∈ l0, Code.I64 x := fun x hx => Code.wf_i64 (g0.2 x hx)
  have hT : Crc.Byte turn := Crc.wf_byte g2
  have HB := Aside0.mk (Below.refl w.heap.size w)
  have HR0 := Aside0.mk hr0; have HC0 := Aside0.mk hc0; clear hr0 hc0
  obtain ⟨k1, hk1⟩ := (Crc.of_ev [49, 50, 51, 52, 53, 54, 55, 56, 57] (by intro x hx; simp at hx; unfold Crc.Byte; omega) (by decide)).rounds
  rw [Torn.known] at hk1
  have H1 := Aside0.mk (show crc_Of.f k1 [49, 50, 51, 52, 53, 54, 55, 56, 57] = some 3421780262 from hk1)
  have E1 := Aside0.mk (show DS.opened ⟨65536, [], [], false, false, -1⟩ = ⟨65536, [], [], false, false, -1⟩ from rfl)
  have OK := Aside0.mk (show ∀ s a r dn, s.length ≤ 65536 → a.length ≤ 65536 → DS.Ok ⟨65536, s, a, r, dn, -1⟩ from fun s a r dn h1 h2 => ⟨by simp only; omega, by simp only; omega, by simp only; omega, by simp only; omega, by simp only; omega, by simp only; omega⟩)
  clear hk1 g1 g2
  by_cases ha : l0.length < 1
  · have c0_ : decide ((l0.length : Int) < 1) = true := decide_eq_true (by omega)
    clear ha
    clear g0 hN hT
    go_enter Try.func11, Try.ntmps11
    go_wp2_with (first | ((with_reducible refine gate_dst (N := 23) rfl ?_); refine V_litmark w.heap.size 22 5 ?hg ?hg2 Try.underlying22 Try.underlying5 (xs := [49, 50, 51, 52, 53, 54, 55, 56, 57]) (inner := [.int .u8 49, .int .u8 50, .int .u8 51, .int .u8 52, .int .u8 53, .int .u8 54, .int .u8 55, .int .u8 56, .int .u8 57]) (ok := fun k => k = w.heap.size) rfl ?hr ?hr2 rfl (Below.refl _ _) (Nat.le_refl _) (by simp) ?_; (case hg => rfl); (case hg2 => rfl); (case hr => first | (go_simp; done) | (go_simp; rfl)); (case hr2 => intro W_; first | (go_simp; done) | (go_simp; rfl)); intro v1 w1 ho hb hg_; clear hg_; obtain ⟨A1, c1, e_, hc_, hF_⟩ := ho; subst e_; have F1 := Aside0.mk (hF_ _ (fun _ _ _ => rfl)); have L1 := Aside0.mk hc_; have B1 := Aside0.mk (below_step HB.out hb); clear hb hc_ hF_))
    refine (crc_Of.calls k1 A1 c1 [49, 50, 51, 52, 53, 54, 55, 56, 57] 3421780262 w1 F1.out L1.out H1.out).mono ?_; rintro e w2 ⟨rfl, hb⟩; have B2 := Aside0.mk (below_step B1.out hb); clear hb
    go_wp2_with fail
    refine (disk_New w2 (by omega) (by omega)).mono ?_; rintro x w3 ⟨g, rfl, hg, hD, hB⟩; have D3 := Aside0.mk (hD.mono (P' := fun k => w.heap.size ≤ k) (fun k hk => Nat.le_trans B2.out.size hk)); have B3 := Aside0.mk (below_step B2.out hB); clear hg hD hB
    go_wp2_with fail
    refine (l_Open D3.out (OK.out _ _ _ _ (by simp) (by simp)) B3.out.size rfl (by simp only; omega) (fun x hx => by simp at hx)).mono ?_; rintro x w4 ⟨gl, v4, rfl, hW, hS, hB⟩; rw [E1.out] at hW; have W4 := Aside0.mk (show IsW w.heap.size w4 g gl ⟨65536, [], [], false, false, -1⟩ 0 from hW); have B4 := Aside0.mk (B3.out.trans hB); obtain ⟨A4, c4, rfl, -, -⟩ := Kd.S_reads hS; clear hW hS hB
    go_wp2
    go_ret
    exact ⟨rfl, B4.out⟩
  have ca_ : decide ((l0.length : Int) < 1) = false := decide_eq_false (by omega)
  by_cases hb : l0.length > 30
  · have c0_ : decide ((l0.length : Int) > 30) = true := decide_eq_true (by omega)
    have c1_ : decide (30 < (l0.length : Int)) = true := decide_eq_true (by omega)
    clear ha hb
    clear g0 hN hT
    go_enter Try.func11, Try.ntmps11
    go_wp2_with (first | ((with_reducible refine gate_dst (N := 23) rfl ?_); refine V_litmark w.heap.size 22 5 ?hg ?hg2 Try.underlying22 Try.underlying5 (xs := [49, 50, 51, 52, 53, 54, 55, 56, 57]) (inner := [.int .u8 49, .int .u8 50, .int .u8 51, .int .u8 52, .int .u8 53, .int .u8 54, .int .u8 55, .int .u8 56, .int .u8 57]) (ok := fun k => k = w.heap.size) rfl ?hr ?hr2 rfl (Below.refl _ _) (Nat.le_refl _) (by simp) ?_; (case hg => rfl); (case hg2 => rfl); (case hr => first | (go_simp; done) | (go_simp; rfl)); (case hr2 => intro W_; first | (go_simp; done) | (go_simp; rfl)); intro v1 w1 ho hb hg_; clear hg_; obtain ⟨A1, c1, e_, hc_, hF_⟩ := ho; subst e_; have F1 := Aside0.mk (hF_ _ (fun _ _ _ => rfl)); have L1 := Aside0.mk hc_; have B1 := Aside0.mk (below_step HB.out hb); clear hb hc_ hF_))
    refine (crc_Of.calls k1 A1 c1 [49, 50, 51, 52, 53, 54, 55, 56, 57] 3421780262 w1 F1.out L1.out H1.out).mono ?_; rintro e w2 ⟨rfl, hb⟩; have B2 := Aside0.mk (below_step B1.out hb); clear hb
    go_wp2_with fail
    refine (disk_New w2 (by omega) (by omega)).mono ?_; rintro x w3 ⟨g, rfl, hg, hD, hB⟩; have D3 := Aside0.mk (hD.mono (P' := fun k => w.heap.size ≤ k) (fun k hk => Nat.le_trans B2.out.size hk)); have B3 := Aside0.mk (below_step B2.out hB); clear hg hD hB
    go_wp2_with fail
    refine (l_Open D3.out (OK.out _ _ _ _ (by simp) (by simp)) B3.out.size rfl (by simp only; omega) (fun x hx => by simp at hx)).mono ?_; rintro x w4 ⟨gl, v4, rfl, hW, hS, hB⟩; rw [E1.out] at hW; have W4 := Aside0.mk (show IsW w.heap.size w4 g gl ⟨65536, [], [], false, false, -1⟩ 0 from hW); have B4 := Aside0.mk (B3.out.trans hB); obtain ⟨A4, c4, rfl, -, -⟩ := Kd.S_reads hS; clear hW hS hB
    go_wp2
    go_ret
    exact ⟨rfl, B4.out⟩
  have cb_ : decide ((l0.length : Int) > 30) = false := decide_eq_false (by omega)
  have cc_ : decide (30 < (l0.length : Int)) = false := decide_eq_false (by omega)
  have HL0 := Aside0.mk (show 1 ≤ l0.length ∧ l0.length ≤ 30 by omega)
  have NN := Aside0.mk hN; have HT := Aside0.mk hT
  have HAL := Aside0.mk (show ∀ m, (Frame.all ((l0.take m).map Code.enc)).length ≤ 540 from fun m => by have h := Torn.all_len (l0.take m) (fun x hx => hN x (List.mem_of_mem_take hx)); have h2 : (l0.take m).length ≤ l0.length := (by rw [List.length_take]; omega); omega)
  have OKT := Aside0.mk (show ∀ i, (dskT l0 i).Ok from fun i => OK.out _ _ _ _ (by have := HAL.out (min i (l0.length - 1)); omega) (by have := HAL.out i; omega))
  clear ha hb hN hT g0
  obtain ⟨lst, hlst⟩ : ∃ x, x = rd l0 ((l0.length - 1 : Nat) : Int) := ⟨_, rfl⟩
  obtain ⟨sz, hsz⟩ : ∃ s : Nat, s = (Frame.rec_ (Code.enc lst)).length := ⟨_, rfl⟩
  have HSZ := Aside0.mk hsz; have HLST := Aside0.mk hlst
  clear hsz hlst
  obtain ⟨nq, hnq⟩ : ∃ x, x = l0.length - 1 := ⟨_, rfl⟩
  have HNQ := Aside0.mk hnq
  have r2 : wrap64 ((l0.length : Int) - 1) = (nq : Int) := by have := HL0.out; unfold wrap64; omega
  have r3 : wrap64 ((nq : Int) + 1) = (l0.length : Int) := by have := HL0.out; unfold wrap64; omega
  clear hnq
  have r4 : wrap64 (l0.length : Int) = (l0.length : Int) := by have := HL0.out; unfold wrap64; omega
  go_enter Try.func11, Try.ntmps11
  go_wp2_with (first | ((with_reducible refine gate_dst (N := 23) rfl ?_); refine V_litmark w.heap.size 22 5 ?hg ?hg2 Try.underlying22 Try.underlying5 (xs := [49, 50, 51, 52, 53, 54, 55, 56, 57]) (inner := [.int .u8 49, .int .u8 50, .int .u8 51, .int .u8 52, .int .u8 53, .int .u8 54, .int .u8 55, .int .u8 56, .int .u8 57]) (ok := fun k => k = w.heap.size) rfl ?hr ?hr2 rfl (Below.refl _ _) (Nat.le_refl _) (by simp) ?_; (case hg => rfl); (case hg2 => rfl); (case hr => first | (go_simp; done) | (go_simp; rfl)); (case hr2 => intro W_; first | (go_simp; done) | (go_simp; rfl)); intro v1 w1 ho hb hg_; clear hg_; obtain ⟨A1, c1, e_, hc_, hF_⟩ := ho; subst e_; have F1 := Aside0.mk (hF_ _ (fun _ _ _ => rfl)); have L1 := Aside0.mk hc_; have B1 := Aside0.mk (below_step HB.out hb); clear hb hc_ hF_))
  refine (crc_Of.calls k1 A1 c1 [49, 50, 51, 52, 53, 54, 55, 56, 57] 3421780262 w1 F1.out L1.out H1.out).mono ?_; rintro e w2 ⟨rfl, hb⟩; have B2 := Aside0.mk (below_step B1.out hb); clear hb
  go_wp2_with fail
  refine (disk_New w2 (by omega) (by omega)).mono ?_; rintro x w3 ⟨g, rfl, hg, hD, hB⟩; have D3 := Aside0.mk (hD.mono (P' := fun k => w.heap.size ≤ k) (fun k hk => Nat.le_trans B2.out.size hk)); have B3 := Aside0.mk (below_step B2.out hB); clear hg hD hB
  go_wp2_with fail
  refine (l_Open D3.out (OK.out _ _ _ _ (by simp) (by simp)) B3.out.size rfl (by simp only; omega) (fun x hx => by simp at hx)).mono ?_; rintro x w4 ⟨gl, v4, rfl, hW, hS, hB⟩; rw [E1.out] at hW; have W4 := Aside0.mk (show IsW w.heap.size w4 g gl ⟨65536, [], [], false, false, -1⟩ 0 from hW); have B4 := Aside0.mk (B3.out.trans hB); obtain ⟨A4, c4, rfl, -, -⟩ := Kd.S_reads hS; clear hW hS hB
  go_wp2_with fail
  go_loopg [11, 51] (l0.length + 1) (fun kq v11 v51 w' => ∃ (i : Nat) (s : Int), v11 = .int .i64 s ∧ v51 = .int .i64 (i : Int) ∧ Aside0 (i ≤ l0.length ∧ i + kq = l0.length + 1 ∧ (i = l0.length → s = (sz : Int))) ∧ Aside0 (IsW w.heap.size w' g gl (dskT l0 i) (i : Int)) ∧ Aside0 (Below w.heap.size w w'))
  case atStart => exact ⟨0, 0, rfl, rfl, ⟨by omega, by omega, fun h => by have := HL0.out; omega⟩, ⟨by have h := W4.out; have e : dskT l0 0 = ⟨65536, [], [], false, false, -1⟩ := (by simp [dskT, Frame.all]); rw [e]; exact h⟩, B4⟩
  case round =>
    obtain ⟨i, s, rfl, rfl, HI, W5, B5⟩ := hrel
    by_cases hi : i < l0.length
    · have d1 : decide ((i : Int) < (l0.length : Int)) = true := decide_eq_true (by omega)
      have hi0 : (0 : Int) ≤ (i : Int) := by omega
      have hi1 : (i : Int) < (l0.length : Int) := by omega
      obtain ⟨ad, rfl, hx⟩ := Kd.at_int (Kd.C_below HR0.out B5.out) (i : Int) hi0 hi1
      rw [Int.toNat_natCast] at hx
      have hnx := Torn.take_next hi
      have hxm : rd l0 (i : Int) ∈ l0 := by rw [rd_nat hi]; exact List.getElem_mem hi
      have hxi := NN.out _ hxm
      obtain ⟨x, hxe⟩ : ∃ x, x = rd l0 (i : Int) := ⟨_, rfl⟩
      rw [← hxe] at hx hnx hxm hxi
      have hexi := Torn.enc_ok hxi
      obtain ⟨b, hbe⟩ : ∃ b, b = Code.enc x := ⟨_, rfl⟩
      obtain ⟨kn, hkn⟩ := (Code.num_ev [] x hxi (by simp)).rounds
      rw [List.nil_append, ← hbe] at hkn
      rw [← hbe] at hexi hnx
      obtain ⟨kf, hkf⟩ := (Frame.append_ev [] b hexi.1 (by omega) (by simp)).rounds
      rw [List.nil_append] at hkf
      obtain ⟨f, hfe⟩ : ∃ f, f = Frame.rec_ b := ⟨_, rfl⟩
      have hfl : f.length = 8 + b.length := by rw [hfe, Frame.rec_length]
      rw [← hfe] at hkf hnx
      have HKN := Aside0.mk hkn; have HKF := Aside0.mk hkf; have HNX := Aside0.mk hnx; have HEX := Aside0.mk hexi; have HBE := Aside0.mk hbe; have HFE := Aside0.mk hfe; have HXE := Aside0.mk hxe; have HFL := Aside0.mk hfl
      have r1 : wrap64 (8 + (b.length : Int)) = (f.length : Int) := by have := hexi.2; unfold wrap64; omega
      have b2 : wrap64 ((i : Int) + 1) = ((i + 1 : Nat) : Int) := by have := HL0.out; unfold wrap64; omega
      have q1 := eq_true hi0
      have q2 := eq_true hi1
      have q3 : decide ((0 : Int) ≤ (i : Int)) = true := decide_eq_true hi0
      have HII := Aside0.mk hi
      have NK := Aside0.mk (show (i + 1 ≤ l0.length ∧ i + 1 + (gk - 1) = l0.length + 1) ∧ 0 < gk from nk_ hi HI.out.2.1)
      clear hnx hxm hxi hexi hbe hkn hkf hfe hfl hxe
      have hput : DS.put (dskT l0 i) b (i : Int) = (⟨65536, (dskT l0 i).sure, Frame.all ((l0.take (i + 1)).map Code.enc), false, false, -1⟩, 0, ((i + 1 : Nat) : Int)) := by
        rw [put_free rfl (by simp only [dskT]; omega) (by have := HEX.out.2; omega) (by have h1 := HAL.out i; have h2 := HEX.out.2; simp only [dskT]; omega), HNX.out, HFE.out]
        rfl
      by_cases hlast : i = l0.length - 1
      · have d3 : ((i : Int) == (nq : Int)) = true := beq_iff_eq.mpr (by have := HNQ.out; omega)
        have d4 := eq_true (show (i : Int) = (nq : Int) by have := HNQ.out; omega)
        have d5 := eq_true (show i = nq by have := HNQ.out; omega)
        have hst : (⟨65536, (dskT l0 i).sure, Frame.all ((l0.take (i + 1)).map Code.enc), false, false, -1⟩ : DS) = dskT l0 (i + 1) := by
          have e1 : min i (l0.length - 1) = min (i + 1) (l0.length - 1) := by omega
          simp only [dskT, e1]
        rw [hst] at hput
        have HPUT := Aside0.mk hput
        have HS2 := Aside0.mk (show (f.length : Int) = (sz : Int) by rw [HFE.out, HSZ.out, HLST.out, HBE.out, HXE.out, hlast])
        clear hi hlast hput hst
        have HC7 : True := trivial
        go_wp2_with fail
        refine (code_Num.calls kn (fun _ => False) (.slice none 0 0) [] x b w _ B5.out (Kd.R_nil _ _ _ _ _) HKN.out).mono ?_; rintro e w6 ⟨v6, rfl, ho, hb, hkp⟩
        obtain ⟨A6, c6, rfl, hc6, hC6⟩ := Kd.R_reads ho
        have hbb : Below wr.heap.size wr w6 := kept_below6 hb hkp B5.out
        have C6 := Aside0.mk hC6; have L6 := Aside0.mk hc6; have W6 := Aside0.mk (W5.out.below hbb); have B6 := Aside0.mk hb; clear ho hb hkp hc6 hC6 hbb
        go_wp2_with fail
        refine (frame_Append.calls kf none 0 [] A6 c6 b _ _ w6 (Kd.C_nil _ _) (Nat.le_refl _) C6.out L6.out HKF.out).mono ?_; rintro e w7 ⟨v7, rfl, hO, hB⟩
        obtain ⟨A7, c7, rfl, hc7, -⟩ := Kd.R_reads hO
        have W7 := Aside0.mk (W6.out.below hB); have C7 := Aside0.mk (Kd.C_below C6.out hB); have B7 := Aside0.mk (below_step B6.out hB); clear hO hB hc7
        go_wp2_with fail
        refine (l_Put (x := b) W7.out (OKT.out i) B7.out.size C7.out L6.out HEX.out.1 (by have := HL0.out; have := HI.out; omega)).mono ?_; rintro y w8 ⟨rfl, hW, hB⟩; rw [HPUT.out] at hW ⊢; dsimp only at hW ⊢; have W8 := Aside0.mk hW; have B8 := Aside0.mk (B7.out.trans hB); clear hW hB
        go_wp2_with fail
        go_roundg (gk - 1)
        case measure => have := NK.out.2; omega
        case rel => exact ⟨i + 1, (f.length : Int), rfl, (by first | rw [b2] | exact congrArg _ (by omega)), ⟨NK.out.1.1, NK.out.1.2, fun _ => HS2.out⟩, W8, B8⟩
      · have d3 : ((i : Int) == (nq : Int)) = false := beq_eq_false_iff_ne.mpr (by have := HNQ.out; omega)
        have d4 := eq_false (show ¬ (i : Int) = (nq : Int) by have := HNQ.out; omega)
        have d5 := eq_false (show ¬ i = nq by have := HNQ.out; omega)
        have hadd : DS.add (dskT l0 i) b (i : Int) = (dskT l0 (i + 1), 0, ((i + 1 : Nat) : Int)) := by
          unfold DS.add
          rw [hput]
          have e1 : min (i + 1) (l0.length - 1) = i + 1 := by omega
          simp only [dskT, e1, DS.sync]
          simp
        have HPUT := Aside0.mk (show (DS.put (dskT l0 i) b (i : Int)).1.Ok by rw [hput]; exact OK.out _ _ _ _ (by have := HAL.out (min i (l0.length - 1)); simp only [dskT]; omega) (by have := HAL.out (i + 1); omega))
        have HADD := Aside0.mk hadd
        have HNE := Aside0.mk (show i + 1 ≠ l0.length by omega)
        clear hi hlast hput hadd
        go_wp2_with fail
        refine (code_Num.calls kn (fun _ => False) (.slice none 0 0) [] x b w _ B5.out (Kd.R_nil _ _ _ _ _) HKN.out).mono ?_; rintro e w6 ⟨v6, rfl, ho, hb, hkp⟩
        obtain ⟨A6, c6, rfl, hc6, hC6⟩ := Kd.R_reads ho
        have hbb : Below wr.heap.size wr w6 := kept_below6 hb hkp B5.out
        have C6 := Aside0.mk hC6; have L6 := Aside0.mk hc6; have W6 := Aside0.mk (W5.out.below hbb); have B6 := Aside0.mk hb; clear ho hb hkp hc6 hC6 hbb
        go_wp2_with fail
        refine (frame_Append.calls kf none 0 [] A6 c6 b _ _ w6 (Kd.C_nil _ _) (Nat.le_refl _) C6.out L6.out HKF.out).mono ?_; rintro e w7 ⟨v7, rfl, hO, hB⟩
        obtain ⟨A7, c7, rfl, hc7, -⟩ := Kd.R_reads hO
        have W7 := Aside0.mk (W6.out.below hB); have C7 := Aside0.mk (Kd.C_below C6.out hB); have B7 := Aside0.mk (below_step B6.out hB); clear hO hB hc7
        go_wp2_with fail
        refine (l_Add (x := b) W7.out (OKT.out i) HPUT.out B7.out.size C7.out L6.out HEX.out.1 (by have := HL0.out; have := HI.out; omega)).mono ?_; rintro y w8 ⟨rfl, hW, hB⟩; rw [HADD.out] at hW ⊢; dsimp only at hW ⊢; have W8 := Aside0.mk hW; have B8 := Aside0.mk (B7.out.trans hB); clear hW hB
        go_wp2_with fail
        go_roundg (gk - 1)
        case measure => have := NK.out.2; omega
        case rel => exact ⟨i + 1, s, rfl, (by first | rw [b2] | exact congrArg _ (by omega)), ⟨NK.out.1.1, NK.out.1.2, fun h => absurd h HNE.out⟩, W8, B8⟩
    · have d1 : decide ((i : Int) < (l0.length : Int)) = false := decide_eq_false (by omega)
      obtain rfl : i = l0.length := by have := HI.out; omega
      obtain rfl : s = (sz : Int) := HI.out.2.2 rfl
      clear hi
      have hpre : ∀ d ∈ (l0.take (l0.length - 1)).map Code.enc, Frame.Bytes d ∧ d.length ≤ 16384 := fun d hd => by
        obtain ⟨y, hy, rfl⟩ := List.mem_map.mp hd
        have := Torn.enc_ok (NN.out y (List.mem_of_mem_take hy))
        exact ⟨this.1, by omega⟩
      have hall : (l0.take (l0.length - 1)).map Code.enc ++ [Code.enc lst] = l0.map Code.enc := by
        have h1 := List.take_append_getElem (l := l0) (i := l0.length - 1) (by have := HL0.out; omega)
        rw [← rd_nat (by have := HL0.out; omega), ← HLST.out, show l0.length - 1 + 1 = l0.length by have := HL0.out; omega, List.take_length] at h1
        conv => rhs; rw [← h1]
        simp
      have hlm : lst ∈ l0 := by rw [HLST.out, rd_nat (by have := HL0.out; omega)]; exact List.getElem_mem _
      have hlo := Torn.enc_ok (NN.out _ hlm)
      obtain ⟨X, hX1, hX2, hX3, hX4, hX5⟩ := Torn.torn_open hpre ⟨hlo.1, by omega⟩ 65536 keep turn HT.out
      rw [hall] at hX1 hX3 hX4
      rw [← HSZ.out] at hX4 hX5
      have hdsk : dskT l0 l0.length = ⟨65536, Frame.all ((l0.take (l0.length - 1)).map Code.enc), Frame.all (l0.map Code.enc), false, false, -1⟩ := by simp only [dskT, List.take_length, show min l0.length (l0.length - 1) = l0.length - 1 by omega]
      have HX3 := Aside0.mk (show X.length ≤ 540 by have h := HAL.out l0.length; rw [List.take_length] at h; omega)
      have HX1 := Aside0.mk hX1; have HX2 := Aside0.mk hX2; have HDK := Aside0.mk hdsk
      have HX4 := Aside0.mk hX4; have HX5 := Aside0.mk hX5
      have HPL := Aside0.mk (show (Frame.all ((l0.take (l0.length - 1)).map Code.enc)).length ≤ 540 ∧ (Frame.all (l0.map Code.enc)).length ≤ 540 from ⟨HAL.out _, by have h := HAL.out l0.length; rwa [List.take_length] at h⟩)
      have HPA := Aside0.mk (show (Frame.all ((l0.take (l0.length - 1)).map Code.enc)).length ≤ (Frame.all (l0.map Code.enc)).length by rw [← hall, Frame.all_append, List.length_append]; omega)
      clear hpre hall hlm hlo hX1 hX2 hX3 hX4 hX5 hdsk
      have D5 := Aside0.mk ((show IsW w.heap.size wr g gl (dskT l0 l0.length) _ from W5.out).1.mono (P' := fun k => w.heap.size ≤ k) (fun k hk => hk.1))
      rw [HDK.out] at D5
      by_cases hg1 : (sz : Int) ≤ keep
      · have e1 : decide (keep ≥ (sz : Int)) = true := decide_eq_true hg1
        have e2 : decide ((sz : Int) ≤ keep) = true := decide_eq_true hg1
        by_cases hg2 : turn = 0
        · have e3 : (turn == 0) = true := beq_iff_eq.mpr hg2
          have HGG := Aside0.mk (show (sz : Int) ≤ keep ∧ turn = 0 from ⟨hg1, hg2⟩)
          clear hg1 hg2
          obtain ⟨gs, hgs⟩ : ∃ gs, gs = (l0.take l0.length).map Code.enc := ⟨_, rfl⟩
          have hgl : gs.length = l0.length := by rw [hgs, List.length_map, List.length_take]; have := HL0.out; omega
          have hsc : Frame.scan X.length X = (gs, ((Frame.all gs).length : Int)) ∧ X.take (Frame.all gs).length = Frame.all gs := by rw [hgs]; rw [List.take_length]; exact HX4.out HGG.out
          have hop : DS.opened ⟨65536, X, X, false, false, -1⟩ = ⟨65536, Frame.all gs, Frame.all gs, false, false, -1⟩ := Torn.opened_of hsc.1 hsc.2
          have hgb : ∀ d ∈ gs, Frame.Bytes d ∧ d.length ≤ 16384 := fun d hd => by
            rw [hgs] at hd
            obtain ⟨y, hy, rfl⟩ := List.mem_map.mp hd
            have := Torn.enc_ok (NN.out y (List.mem_of_mem_take hy))
            exact ⟨this.1, by omega⟩
          have hb2 : Frame.Bytes [122] := fun x hx => by rw [List.mem_singleton.mp hx]; exact ⟨by decide, by decide⟩
          have hgb2 : ∀ d ∈ gs ++ [[122]], Frame.Bytes d ∧ d.length ≤ 16384 := fun d hd => (List.mem_append.mp hd).elim (hgb d) (fun q => by rw [List.mem_singleton.mp q]; exact ⟨hb2, by simp⟩)
          have hga : (Frame.all gs).length ≤ 540 := by rw [hgs]; exact HAL.out _
          have hga2 : (Frame.all (gs ++ [[122]])).length = (Frame.all gs).length + 9 := by rw [Frame.all_append, List.length_append]; rfl
          have hgab : Frame.Bytes (Frame.all (gs ++ [[122]])) := Frame.all_bytes (fun d hd => (hgb2 d hd).1)
          obtain ⟨gz, hgz⟩ : ∃ gz, gz = gs ++ [[122]] := ⟨_, rfl⟩
          rw [← hgz] at hgb2 hga2 hgab
          have hgzl : gz.length = gs.length + 1 := by rw [hgz]; simp
          obtain ⟨hs3, ho3⟩ := Torn.opened_all (R := 65536) (s := Frame.all gz) hgb2
          have hput : DS.put ⟨65536, Frame.all gs, Frame.all gs, false, false, -1⟩ [122] (gs.length : Int) = (⟨65536, Frame.all gs, Frame.all gz, false, false, -1⟩, 0, ((gs.length + 1 : Nat) : Int)) := by
            rw [put_free rfl (by simp only; omega) (by simp) (by simp only [List.length_singleton]; omega), hgz, Frame.all_append]
            simp [Frame.all]
          have hadd : DS.add ⟨65536, Frame.all gs, Frame.all gs, false, false, -1⟩ [122] (gs.length : Int) = (⟨65536, Frame.all gz, Frame.all gz, false, false, -1⟩, 0, ((gs.length + 1 : Nat) : Int)) := by unfold DS.add; rw [hput]; rfl
          have hgi : ∀ j, j < gs.length → rd_L1 gs (j : Int) = Code.enc (rd l0 (j : Int)) ∧ j < l0.length := fun j hj => by
            have hj2 : j < l0.length := by have := HL0.out; omega
            refine ⟨?_, hj2⟩
            rw [rdL1 hj, rd_nat hj2]
            simp only [hgs, List.getElem_map, List.getElem_take]
          have hlast : rd_L1 gz ((l0.length : Int)) = [122] := by
            rw [show ((l0.length : Int) : Int) = (gs.length : Int) by have := HL0.out; have := HNQ.out; omega, rdL1 (by omega)]
            simp [hgz]
          have HGZ := Aside0.mk hgzl
          have n3 : ((gz.length : Int) == (l0.length : Int) + 1) = true := beq_iff_eq.mpr (by have := HL0.out; have := HNQ.out; omega)
          have n4 := eq_true (show (gz.length : Int) = (l0.length : Int) + 1 by have := HL0.out; have := HNQ.out; omega)
          have n5 : wrap64 ((l0.length : Int) + 1) = (l0.length : Int) + 1 := by have := HL0.out; have := HNQ.out; unfold wrap64; omega
          have n6 := eq_true (show (0 : Int) ≤ (l0.length : Int) by have := HL0.out; have := HNQ.out; omega)
          have n7 := eq_true (show (l0.length : Int) < (gz.length : Int) by have := HL0.out; have := HNQ.out; omega)
          have n8 : decide ((0 : Int) ≤ (l0.length : Int)) = true := decide_eq_true (by have := HL0.out; have := HNQ.out; omega)
          have n9 : decide ((l0.length : Int) < (gz.length : Int)) = true := decide_eq_true (by have := HL0.out; have := HNQ.out; omega)
          have HGL := Aside0.mk hgl; have HSC := Aside0.mk hsc; have HOP := Aside0.mk hop; have HGA := Aside0.mk hga; have HGA2 := Aside0.mk hga2; have HGAB := Aside0.mk hgab; have HS3 := Aside0.mk hs3; have HO3 := Aside0.mk ho3
          have HPUT := Aside0.mk hput; have HADD := Aside0.mk hadd; have HGI := Aside0.mk hgi; have HLA := Aside0.mk hlast; have HB2 := Aside0.mk hb2
          have n1 : ((gs.length : Int) != (l0.length : Int)) = false := bne_eq_false_iff_eq.mpr (by have := HL0.out; have := HNQ.out; omega)
          have n2 := eq_true (show (gs.length : Int) = (l0.length : Int) by have := HL0.out; have := HNQ.out; omega)
          clear hgs hgl hsc hop hgb hb2 hgb2 hga hga2 hgab hs3 ho3 hput hadd hgi hlast hgz hgzl
          go_wp2_with fail
          refine (s_Crash (N := w.heap.size) (keep := keep) (turn := turn) D5.out (OK.out _ _ _ _ (by have := HPL.out.1; omega) (by have := HPL.out.2; omega)) (fun _ => HPA.out) HT.out (fun k hk => hk) B5.out.size).mono ?_; rintro x w6 ⟨rfl, hD, hB⟩; rw [HX1.out] at hD; have D6 := Aside0.mk hD; have B6 := Aside0.mk (B5.out.trans hB); clear hD hB
          go_wp2_with fail
          refine (s_Up (N := w.heap.size) D6.out (OK.out _ _ _ _ (by have := HPL.out.1; omega) (by have := HX3.out; omega)) (fun k hk => hk) B6.out.size).mono ?_; rintro x w7 ⟨rfl, hD, hB⟩; have D7 := Aside0.mk (show IsD _ w7 g ⟨65536, X, X, false, false, -1⟩ from hD); have B7 := Aside0.mk (B6.out.trans hB); clear hD hB
          go_wp2_with fail
          refine (l_Open D7.out (OK.out _ _ _ _ (by have := HX3.out; omega) (by have := HX3.out; omega)) B7.out.size rfl (by simp only; omega) HX2.out).mono ?_; rintro x w8 ⟨gl2, v8, rfl, hW, hS, hB⟩
          dsimp only at hW hS
          rw [HOP.out, HSC.out.1] at hW; rw [HSC.out.1] at hS
          obtain ⟨A8, c8, rfl, hc8, hC8⟩ := Kd.S_reads hS
          dsimp only at hW hC8 hc8 ⊢
          have W8 := Aside0.mk hW; have C8 := Aside0.mk hC8; have B8 := Aside0.mk (B7.out.trans hB)
          clear hW hS hB hC8 hc8
          go_wp2_with fail
          (try simp only [r2, r3, r4])
          go_loopg [125] (gs.length + 1) (fun kq v125 w' => ∃ (j : Nat), v125 = .int .i64 (j : Int) ∧ Aside0 (j ≤ gs.length ∧ j + kq = gs.length + 1) ∧ Aside0 (Below w8.heap.size w8 w'))
          case atStart => exact ⟨0, rfl, ⟨by omega, by omega⟩, ⟨Below.refl _ _⟩⟩
          case round =>
            obtain ⟨j, rfl, HJ, B9⟩ := hrel
            by_cases hj : j < gs.length
            · have d5 : decide ((j : Int) < (gs.length : Int)) = true := decide_eq_true (by omega)
              have hj0 : (0 : Int) ≤ (j : Int) := by omega
              have hj1 : (j : Int) < (gs.length : Int) := by omega
              obtain ⟨ad, Ax, cx, rfl, hx, hle, hcx⟩ := at_L1 C8.out (j : Int) hj0 hj1
              replace hx := cell_kept hx (Kept.of_below B9.out (fun _ => False)) id
              obtain ⟨hge, hj2⟩ := HGI.out j hj
              have hj3 : (j : Int) < (l0.length : Int) := by omega
              obtain ⟨ad0, rfl, hz⟩ := Kd.at_int (Kd.C_below HR0.out B8.out) (j : Int) hj0 hj3
              rw [Int.toNat_natCast] at hz hx
              rw [hge] at hx hle hcx
              have hzm : rd l0 (j : Int) ∈ l0 := by rw [rd_nat hj2]; exact List.getElem_mem hj2
              obtain ⟨z, hze⟩ : ∃ z, z = rd l0 (j : Int) := ⟨_, rfl⟩
              rw [← hze] at hx hle hcx hz hzm
              have hzi := NN.out _ hzm
              obtain ⟨hn1, hn2⟩ := Torn.read_num hzi
              obtain ⟨kz, hkz⟩ := hn1.rounds
              have hel := (Torn.enc_ok hzi).2
              obtain ⟨b, hbe⟩ : ∃ b, b = Code.enc z := ⟨_, rfl⟩
              rw [← hbe] at hx hle hcx hn2 hkz hel
              have HCELL := Aside0.mk (show ∀ W, Below w8.heap.size w8 W → W.cell? (ad0.add j) = some (.int .i64 z) from fun W hb => cell_kept hz (Kept.of_below hb (fun _ => False)) id); have HLE := Aside0.mk hle; have HCX := Aside0.mk hcx; have HN2 := Aside0.mk hn2; have HKZ := Aside0.mk hkz; have HEL := Aside0.mk hel
              have b4 : wrap64 ((j : Int) + 1) = ((j + 1 : Nat) : Int) := by have := HL0.out; unfold wrap64; omega
              have NK := Aside0.mk (show (j + 1 ≤ gs.length ∧ j + 1 + (gk - 1) = gs.length + 1) ∧ 0 < gk from nk_ hj HJ.out.2)
              have q1 := eq_true hj0
              have q2 := eq_true hj1
              have q3 := eq_true hj3
              have q4 : decide ((0 : Int) ≤ (j : Int)) = true := decide_eq_true hj0
              have q5 : decide ((j : Int) < (l0.length : Int)) = true := decide_eq_true hj3
              have q6 : (z != z) = false := bne_self_eq_false z
              clear hj hge hj2 hzm hze hzi hn1 hn2 hkz hel hbe hle hcx hz
              go_wp2_with fail
              refine (code_Read.callsm (l0 := b) rfl (Kd.C_below HCX.out B9.out) HLE.out (by have := HEL.out; omega)).mono ?_; rintro e w10 ⟨gr, rfl, hg, hR, hB⟩; have R10 := Aside0.mk hR; have B10 := Aside0.mk (below_step B9.out hB); have G10 := Aside0.mk (show w8.heap.size ≤ gr from Nat.le_trans B9.out.size hg); clear hg hR hB
              go_wp2_with fail
              refine start_ (n := 12) (S := fun w' => w'.cell? (ad0.add j) = some (.int .i64 z)) (ds := []) #[false, false, false, false, false, false, false, false, false, false, false, false] (by kernel_rfl) rfl rfl (HCELL.out _ (below_step B10.out (below_drew (Below.refl _ _)))) (fun hHeld => ?_)
              refine pure_ (i := 0) (N := some 132) (v := ?_) (a' := ?_) #[true, false, false, false, false, false, false, false, false, false, false, false] rfl rfl (by kernel_rfl) (fun _ _ _ h => h) (Or.inl ⟨by rfl, ?_⟩) ?_ ?_
              rotate_left
              · intro w'
                go_simp
                with_reducible rfl
              rotate_left
              · simp only [Act.put, List.setIfInBounds_toArray, List.set_cons_zero, List.set_cons_succ, i64_w, i32_w]
                rfl
              refine pure_ (i := 2) (N := some 134) (v := ?_) (a' := ?_) #[true, false, true, false, false, false, false, false, false, false, false, false] rfl rfl (by kernel_rfl) (fun _ _ _ h => h) (Or.inl ⟨by rfl, ?_⟩) ?_ ?_
              rotate_left
              · intro w'
                go_simp
                with_reducible rfl
              rotate_left
              · simp only [Act.put, List.setIfInBounds_toArray, List.set_cons_zero, List.set_cons_succ, i64_w, i32_w]
                rfl
              refine pure_ (i := 3) (N := some 135) (v := ?_) (a' := ?_) #[true, false, true, true, false, false, false, false, false, false, false, false] rfl rfl (by kernel_rfl) (fun _ _ _ h => h) (Or.inl ⟨by rfl, ?_⟩) ?_ ?_
              rotate_left
              · intro w'
                go_simp
                with_reducible rfl
              rotate_left
              · simp only [Act.put, List.setIfInBounds_toArray, List.set_cons_zero, List.set_cons_succ, i64_w, i32_w]
                rfl
              refine pure_ (i := 4) (N := some 136) (v := ?_) (a' := ?_) #[true, false, true, true, true, false, false, false, false, false, false, false] rfl rfl (by kernel_rfl) (fun _ _ _ h => h) (Or.inl ⟨by rfl, ?_⟩) ?_ ?_
              rotate_left
              · intro w'
                go_simp
                with_reducible rfl
              rotate_left
              · simp only [Act.put, List.setIfInBounds_toArray, List.set_cons_zero, List.set_cons_succ, i64_w, i32_w]
                rfl
              refine take_ (i := 5) (N := some 137) (v := ?_) (a' := ?_) #[true, false, true, true, true, true, false, false, false, false, false, false] rfl rfl (by kernel_rfl) (fun _ _ _ h => h) (Or.inl ⟨by rfl, ?_⟩) hHeld ?_ ?_
              rotate_left
              · intro w' s0
                go_simp
                with_reducible rfl
              rotate_left
              · simp only [Act.put, List.setIfInBounds_toArray, List.set_cons_zero, List.set_cons_succ, i64_w, i32_w]
                rfl
              refine one_ (i := 1) (N := some 133) #[true, true, true, true, true, true, false, false, false, false, false, false] rfl rfl (by kernel_rfl) (by decide) (fun K hK => ?_)
              refine goes_ Try.func38 (by kernel_rfl) rfl #[.pointer (some ⟨gr, 0, none⟩)] (by rfl) rfl rfl (by simp only [List.map_toArray, List.map_cons, List.map_nil]; rfl) ?_
              with_reducible refine (rd_Num (w := w10.drew) (R10.out.below (below_drew (Below.refl _ _))) HKZ.out).mono ?_
              rintro e w11 ⟨rfl, hR, hb, hk⟩
              refine ⟨_, rfl, ?_⟩
              have B11 := Aside0.mk ((below_step B10.out (below_drew (Below.refl _ _))).trans (hb.mono G10.out))
              have R11 := Aside0.mk hR
              clear hR hb hk
              refine hK.out _ _ (HCELL.out _ (B11.out)) (fun hHeld => ?_)
              clear hK K
              refine norm_ (a' := ?_) ?_ ?_
              rotate_left
              · show Act.put _ (some 133) _ = _
                simp only [Act.put, List.setIfInBounds_toArray, List.set_cons_zero, List.set_cons_succ, i64_w, i32_w]
                rfl
              refine pure_ (i := 6) (N := some 138) (v := ?_) (a' := ?_) #[true, true, true, true, true, true, true, false, false, false, false, false] rfl rfl (by kernel_rfl) (fun _ _ _ h => h) (Or.inl ⟨by rfl, ?_⟩) ?_ ?_
              rotate_left
              · intro w'
                go_simp
                with_reducible rfl
              rotate_left
              · simp only [Act.put, List.setIfInBounds_toArray, List.set_cons_zero, List.set_cons_succ, i64_w, i32_w]
                rfl
              refine pure_ (i := 7) (N := some 139) (v := ?_) (a' := ?_) #[true, true, true, true, true, true, true, true, false, false, false, false] rfl rfl (by kernel_rfl) (fun _ _ _ h => h) (Or.inl ⟨by rfl, ?_⟩) ?_ ?_
              rotate_left
              · intro w'
                go_simp
                with_reducible rfl
              rotate_left
              · simp only [Act.put, List.setIfInBounds_toArray, List.set_cons_zero, List.set_cons_succ, i64_w, i32_w]
                rfl
              refine pure_ (i := 8) (N := some 140) (v := ?_) (a' := ?_) #[true, true, true, true, true, true, true, true, true, false, false, false] rfl rfl (by kernel_rfl) (fun _ _ _ h => h) (Or.inl ⟨by rfl, ?_⟩) ?_ ?_
              rotate_left
              · intro w'
                go_simp
                with_reducible rfl
              rotate_left
              · simp only [Act.put, List.setIfInBounds_toArray, List.set_cons_zero, List.set_cons_succ, i64_w, i32_w]
                rfl
              refine one_ (i := 9) (N := some 141) #[true, true, true, true, true, true, true, true, true, true, false, false] rfl rfl (by kernel_rfl) (by decide) (fun K hK => ?_)
              refine goes_ Try.func39 (by kernel_rfl) rfl #[.pointer (some ⟨gr, 0, none⟩)] (by rfl) rfl rfl (by simp only [List.map_toArray, List.map_cons, List.map_nil]; rfl) ?_
              with_reducible refine (rd_End R11.out HN2.out).mono ?_
              rintro e w12 ⟨rfl, hR, hb, hk⟩
              refine ⟨_, rfl, ?_⟩
              have B12 := Aside0.mk (B11.out.trans (hb.mono G10.out))
              clear hR hb hk
              refine hK.out _ _ (HCELL.out _ (B12.out)) (fun hHeld => ?_)
              clear hK K
              refine norm_ (a' := ?_) ?_ ?_
              rotate_left
              · show Act.put _ (some 141) _ = _
                simp only [Act.put, List.setIfInBounds_toArray, List.set_cons_zero, List.set_cons_succ, i64_w, i32_w]
                rfl
              refine pure_ (i := 10) (N := some 142) (v := ?_) (a' := ?_) #[true, true, true, true, true, true, true, true, true, true, true, false] rfl rfl (by kernel_rfl) (fun _ _ _ h => h) (Or.inl ⟨by rfl, ?_⟩) ?_ ?_
              rotate_left
              · intro w'
                go_simp
                with_reducible rfl
              rotate_left
              · simp only [Act.put, List.setIfInBounds_toArray, List.set_cons_zero, List.set_cons_succ, i64_w, i32_w]
                rfl
              refine pure_ (i := 11) (N := some 143) (v := ?_) (a' := ?_) #[true, true, true, true, true, true, true, true, true, true, true, true] rfl rfl (by kernel_rfl) (fun _ _ _ h => h) (Or.inl ⟨by rfl, ?_⟩) ?_ ?_
              rotate_left
              · intro w'
                go_simp
                with_reducible rfl
              rotate_left
              · simp only [Act.put, List.setIfInBounds_toArray, List.set_cons_zero, List.set_cons_succ, i64_w, i32_w]
                rfl
              refine done_ (by kernel_rfl) ?_

              go_wp2_with fail
              go_roundg (gk - 1)
              case measure => have := NK.out.2; omega
              case rel => exact ⟨j + 1, (by first | rw [b4] | exact congrArg _ (by omega)), ⟨NK.out.1.1, NK.out.1.2⟩, B12⟩
            · have d5 : decide ((j : Int) < (gs.length : Int)) = false := decide_eq_false (by omega)
              obtain rfl : j = gs.length := by have := HJ.out; omega
              have W9 := Aside0.mk (W8.out.below B9.out); have B9b := Aside0.mk (below_step B8.out B9.out)
              clear hj
              go_wp2_with (first | ((with_reducible refine gate_dst (N := 146) rfl ?_); refine V_litmark wr.heap.size 22 5 ?hg ?hg2 Try.underlying22 Try.underlying5 (xs := [122]) (inner := [.int .u8 122]) (ok := fun k => k = wr.heap.size) rfl ?hr ?hr2 rfl (Below.refl _ _) (Nat.le_refl _) (by simp) ?_; (case hg => rfl); (case hg2 => rfl); (case hr => first | (go_simp; done) | (go_simp; rfl)); (case hr2 => intro W_; first | (go_simp; done) | (go_simp; rfl)); intro v3 w10 ho hb hg_; clear hg_; obtain ⟨A10, c10, e_, hc_, hF_⟩ := ho; subst e_; have F10 := Aside0.mk hF_; have L10 := Aside0.mk hc_; have W10 := Aside0.mk (W9.out.below hb); have B10 := Aside0.mk (below_step B9b.out hb); clear hb hc_ hF_))
              refine (l_Add (x := [122]) W10.out (OK.out _ _ _ _ (by have := HGA.out; omega) (by have := HGA.out; omega)) (by rw [HPUT.out]; exact OK.out _ _ _ _ (by have := HGA.out; omega) (by have := HGA.out; have := HGA2.out; omega)) B10.out.size (F10.out _ (fun _ _ _ => rfl)) L10.out HB2.out (by have := HGL.out; have := HL0.out; omega)).mono ?_; rintro x w11 ⟨rfl, hW, hB⟩; rw [HADD.out] at hW ⊢; dsimp only at hW ⊢; have D11 := Aside0.mk (hW.1.mono (P' := fun k => w.heap.size ≤ k) (fun k hk => hk.1)); have B11 := Aside0.mk (B10.out.trans hB); clear hW hB
              go_wp2_with fail
              refine (l_Open D11.out (OK.out _ _ _ _ (by have := HGA.out; have := HGA2.out; omega) (by have := HGA.out; have := HGA2.out; omega)) B11.out.size rfl (by simp only; omega) HGAB.out).mono ?_; rintro x w12 ⟨gl3, v12, rfl, hW, hS, hB⟩
              dsimp only at hW hS
              rw [HS3.out] at hS
              obtain ⟨A12, c12, rfl, hc12, hC12⟩ := Kd.S_reads hS
              have B12 := Aside0.mk (B11.out.trans hB)
              obtain ⟨ad, Ax, cx, rfl, hx, hle, hcx⟩ := at_L1 hC12 ((l0.length : Int)) (of_eq_true n6) (of_eq_true n7)
              rw [HLA.out] at hx hcx
              try rw [Int.toNat_natCast] at hx
              have hcv := Kd.C_string (P := Try.prog) (c := cx) Try.underlying22 Try.underlying5 Try.underlying9 hcx
              have hs : strOfNums [122] = ⟨#[122]⟩ := by decide +kernel
              rw [hs] at hcv
              simp only [List.length_cons, List.length_nil, Nat.zero_add] at hx hcv
              dsimp only
              clear hs hle hcx hW hS hB hc12 hC12
              go_wp2_with fail
              go_ret
              exact ⟨rfl, B12.out⟩
        · have e3 : (turn == 0) = false := beq_eq_false_iff_ne.mpr hg2
          have HGG := Aside0.mk (show ¬ ((sz : Int) ≤ keep ∧ turn = 0) from fun h => hg2 h.2)
          clear hg1 hg2
          obtain ⟨gs, hgs⟩ : ∃ gs, gs = (l0.take (l0.length - 1)).map Code.enc := ⟨_, rfl⟩
          have hgl : gs.length = (l0.length - 1) := by rw [hgs, List.length_map, List.length_take]; have := HL0.out; omega
          have hsc : Frame.scan X.length X = (gs, ((Frame.all gs).length : Int)) ∧ X.take (Frame.all gs).length = Frame.all gs := by rw [hgs]; exact HX5.out HGG.out
          have hop : DS.opened ⟨65536, X, X, false, false, -1⟩ = ⟨65536, Frame.all gs, Frame.all gs, false, false, -1⟩ := Torn.opened_of hsc.1 hsc.2
          have hgb : ∀ d ∈ gs, Frame.Bytes d ∧ d.length ≤ 16384 := fun d hd => by
            rw [hgs] at hd
            obtain ⟨y, hy, rfl⟩ := List.mem_map.mp hd
            have := Torn.enc_ok (NN.out y (List.mem_of_mem_take hy))
            exact ⟨this.1, by omega⟩
          have hb2 : Frame.Bytes [122] := fun x hx => by rw [List.mem_singleton.mp hx]; exact ⟨by decide, by decide⟩
          have hgb2 : ∀ d ∈ gs ++ [[122]], Frame.Bytes d ∧ d.length ≤ 16384 := fun d hd => (List.mem_append.mp hd).elim (hgb d) (fun q => by rw [List.mem_singleton.mp q]; exact ⟨hb2, by simp⟩)
          have hga : (Frame.all gs).length ≤ 540 := by rw [hgs]; exact HAL.out _
          have hga2 : (Frame.all (gs ++ [[122]])).length = (Frame.all gs).length + 9 := by rw [Frame.all_append, List.length_append]; rfl
          have hgab : Frame.Bytes (Frame.all (gs ++ [[122]])) := Frame.all_bytes (fun d hd => (hgb2 d hd).1)
          obtain ⟨gz, hgz⟩ : ∃ gz, gz = gs ++ [[122]] := ⟨_, rfl⟩
          rw [← hgz] at hgb2 hga2 hgab
          have hgzl : gz.length = gs.length + 1 := by rw [hgz]; simp
          obtain ⟨hs3, ho3⟩ := Torn.opened_all (R := 65536) (s := Frame.all gz) hgb2
          have hput : DS.put ⟨65536, Frame.all gs, Frame.all gs, false, false, -1⟩ [122] (gs.length : Int) = (⟨65536, Frame.all gs, Frame.all gz, false, false, -1⟩, 0, ((gs.length + 1 : Nat) : Int)) := by
            rw [put_free rfl (by simp only; omega) (by simp) (by simp only [List.length_singleton]; omega), hgz, Frame.all_append]
            simp [Frame.all]
          have hadd : DS.add ⟨65536, Frame.all gs, Frame.all gs, false, false, -1⟩ [122] (gs.length : Int) = (⟨65536, Frame.all gz, Frame.all gz, false, false, -1⟩, 0, ((gs.length + 1 : Nat) : Int)) := by unfold DS.add; rw [hput]; rfl
          have hgi : ∀ j, j < gs.length → rd_L1 gs (j : Int) = Code.enc (rd l0 (j : Int)) ∧ j < l0.length := fun j hj => by
            have hj2 : j < l0.length := by have := HL0.out; omega
            refine ⟨?_, hj2⟩
            rw [rdL1 hj, rd_nat hj2]
            simp only [hgs, List.getElem_map, List.getElem_take]
          have hlast : rd_L1 gz ((nq : Int)) = [122] := by
            rw [show ((nq : Int) : Int) = (gs.length : Int) by have := HL0.out; have := HNQ.out; omega, rdL1 (by omega)]
            simp [hgz]
          have HGZ := Aside0.mk hgzl
          have n3 : ((gz.length : Int) == (l0.length : Int)) = true := beq_iff_eq.mpr (by have := HL0.out; have := HNQ.out; omega)
          have n4 := eq_true (show (gz.length : Int) = (l0.length : Int) by have := HL0.out; have := HNQ.out; omega)
          have n5 : wrap64 ((nq : Int) + 1) = (l0.length : Int) := by have := HL0.out; have := HNQ.out; unfold wrap64; omega
          have n6 := eq_true (show (0 : Int) ≤ (nq : Int) by have := HL0.out; have := HNQ.out; omega)
          have n7 := eq_true (show (nq : Int) < (gz.length : Int) by have := HL0.out; have := HNQ.out; omega)
          have n8 : decide ((0 : Int) ≤ (nq : Int)) = true := decide_eq_true (by have := HL0.out; have := HNQ.out; omega)
          have n9 : decide ((nq : Int) < (gz.length : Int)) = true := decide_eq_true (by have := HL0.out; have := HNQ.out; omega)
          have HGL := Aside0.mk hgl; have HSC := Aside0.mk hsc; have HOP := Aside0.mk hop; have HGA := Aside0.mk hga; have HGA2 := Aside0.mk hga2; have HGAB := Aside0.mk hgab; have HS3 := Aside0.mk hs3; have HO3 := Aside0.mk ho3
          have HPUT := Aside0.mk hput; have HADD := Aside0.mk hadd; have HGI := Aside0.mk hgi; have HLA := Aside0.mk hlast; have HB2 := Aside0.mk hb2
          have n1 : ((gs.length : Int) != (nq : Int)) = false := bne_eq_false_iff_eq.mpr (by have := HL0.out; have := HNQ.out; omega)
          have n2 := eq_true (show (gs.length : Int) = (nq : Int) by have := HL0.out; have := HNQ.out; omega)
          clear hgs hgl hsc hop hgb hb2 hgb2 hga hga2 hgab hs3 ho3 hput hadd hgi hlast hgz hgzl
          go_wp2_with fail
          refine (s_Crash (N := w.heap.size) (keep := keep) (turn := turn) D5.out (OK.out _ _ _ _ (by have := HPL.out.1; omega) (by have := HPL.out.2; omega)) (fun _ => HPA.out) HT.out (fun k hk => hk) B5.out.size).mono ?_; rintro x w6 ⟨rfl, hD, hB⟩; rw [HX1.out] at hD; have D6 := Aside0.mk hD; have B6 := Aside0.mk (B5.out.trans hB); clear hD hB
          go_wp2_with fail
          refine (s_Up (N := w.heap.size) D6.out (OK.out _ _ _ _ (by have := HPL.out.1; omega) (by have := HX3.out; omega)) (fun k hk => hk) B6.out.size).mono ?_; rintro x w7 ⟨rfl, hD, hB⟩; have D7 := Aside0.mk (show IsD _ w7 g ⟨65536, X, X, false, false, -1⟩ from hD); have B7 := Aside0.mk (B6.out.trans hB); clear hD hB
          go_wp2_with fail
          refine (l_Open D7.out (OK.out _ _ _ _ (by have := HX3.out; omega) (by have := HX3.out; omega)) B7.out.size rfl (by simp only; omega) HX2.out).mono ?_; rintro x w8 ⟨gl2, v8, rfl, hW, hS, hB⟩
          dsimp only at hW hS
          rw [HOP.out, HSC.out.1] at hW; rw [HSC.out.1] at hS
          obtain ⟨A8, c8, rfl, hc8, hC8⟩ := Kd.S_reads hS
          dsimp only at hW hC8 hc8 ⊢
          have W8 := Aside0.mk hW; have C8 := Aside0.mk hC8; have B8 := Aside0.mk (B7.out.trans hB)
          clear hW hS hB hC8 hc8
          go_wp2_with fail
          (try simp only [r2, r3, r4])
          go_loopg [125] (gs.length + 1) (fun kq v125 w' => ∃ (j : Nat), v125 = .int .i64 (j : Int) ∧ Aside0 (j ≤ gs.length ∧ j + kq = gs.length + 1) ∧ Aside0 (Below w8.heap.size w8 w'))
          case atStart => exact ⟨0, rfl, ⟨by omega, by omega⟩, ⟨Below.refl _ _⟩⟩
          case round =>
            obtain ⟨j, rfl, HJ, B9⟩ := hrel
            by_cases hj : j < gs.length
            · have d5 : decide ((j : Int) < (gs.length : Int)) = true := decide_eq_true (by omega)
              have hj0 : (0 : Int) ≤ (j : Int) := by omega
              have hj1 : (j : Int) < (gs.length : Int) := by omega
              obtain ⟨ad, Ax, cx, rfl, hx, hle, hcx⟩ := at_L1 C8.out (j : Int) hj0 hj1
              replace hx := cell_kept hx (Kept.of_below B9.out (fun _ => False)) id
              obtain ⟨hge, hj2⟩ := HGI.out j hj
              have hj3 : (j : Int) < (l0.length : Int) := by omega
              obtain ⟨ad0, rfl, hz⟩ := Kd.at_int (Kd.C_below HR0.out B8.out) (j : Int) hj0 hj3
              rw [Int.toNat_natCast] at hz hx
              rw [hge] at hx hle hcx
              have hzm : rd l0 (j : Int) ∈ l0 := by rw [rd_nat hj2]; exact List.getElem_mem hj2
              obtain ⟨z, hze⟩ : ∃ z, z = rd l0 (j : Int) := ⟨_, rfl⟩
              rw [← hze] at hx hle hcx hz hzm
              have hzi := NN.out _ hzm
              obtain ⟨hn1, hn2⟩ := Torn.read_num hzi
              obtain ⟨kz, hkz⟩ := hn1.rounds
              have hel := (Torn.enc_ok hzi).2
              obtain ⟨b, hbe⟩ : ∃ b, b = Code.enc z := ⟨_, rfl⟩
              rw [← hbe] at hx hle hcx hn2 hkz hel
              have HCELL := Aside0.mk (show ∀ W, Below w8.heap.size w8 W → W.cell? (ad0.add j) = some (.int .i64 z) from fun W hb => cell_kept hz (Kept.of_below hb (fun _ => False)) id); have HLE := Aside0.mk hle; have HCX := Aside0.mk hcx; have HN2 := Aside0.mk hn2; have HKZ := Aside0.mk hkz; have HEL := Aside0.mk hel
              have b4 : wrap64 ((j : Int) + 1) = ((j + 1 : Nat) : Int) := by have := HL0.out; unfold wrap64; omega
              have NK := Aside0.mk (show (j + 1 ≤ gs.length ∧ j + 1 + (gk - 1) = gs.length + 1) ∧ 0 < gk from nk_ hj HJ.out.2)
              have q1 := eq_true hj0
              have q2 := eq_true hj1
              have q3 := eq_true hj3
              have q4 : decide ((0 : Int) ≤ (j : Int)) = true := decide_eq_true hj0
              have q5 : decide ((j : Int) < (l0.length : Int)) = true := decide_eq_true hj3
              have q6 : (z != z) = false := bne_self_eq_false z
              clear hj hge hj2 hzm hze hzi hn1 hn2 hkz hel hbe hle hcx hz
              go_wp2_with fail
              refine (code_Read.callsm (l0 := b) rfl (Kd.C_below HCX.out B9.out) HLE.out (by have := HEL.out; omega)).mono ?_; rintro e w10 ⟨gr, rfl, hg, hR, hB⟩; have R10 := Aside0.mk hR; have B10 := Aside0.mk (below_step B9.out hB); have G10 := Aside0.mk (show w8.heap.size ≤ gr from Nat.le_trans B9.out.size hg); clear hg hR hB
              go_wp2_with fail
              refine start_ (n := 12) (S := fun w' => w'.cell? (ad0.add j) = some (.int .i64 z)) (ds := []) #[false, false, false, false, false, false, false, false, false, false, false, false] (by kernel_rfl) rfl rfl (HCELL.out _ (below_step B10.out (below_drew (Below.refl _ _)))) (fun hHeld => ?_)
              refine pure_ (i := 0) (N := some 132) (v := ?_) (a' := ?_) #[true, false, false, false, false, false, false, false, false, false, false, false] rfl rfl (by kernel_rfl) (fun _ _ _ h => h) (Or.inl ⟨by rfl, ?_⟩) ?_ ?_
              rotate_left
              · intro w'
                go_simp
                with_reducible rfl
              rotate_left
              · simp only [Act.put, List.setIfInBounds_toArray, List.set_cons_zero, List.set_cons_succ, i64_w, i32_w]
                rfl
              refine pure_ (i := 2) (N := some 134) (v := ?_) (a' := ?_) #[true, false, true, false, false, false, false, false, false, false, false, false] rfl rfl (by kernel_rfl) (fun _ _ _ h => h) (Or.inl ⟨by rfl, ?_⟩) ?_ ?_
              rotate_left
              · intro w'
                go_simp
                with_reducible rfl
              rotate_left
              · simp only [Act.put, List.setIfInBounds_toArray, List.set_cons_zero, List.set_cons_succ, i64_w, i32_w]
                rfl
              refine pure_ (i := 3) (N := some 135) (v := ?_) (a' := ?_) #[true, false, true, true, false, false, false, false, false, false, false, false] rfl rfl (by kernel_rfl) (fun _ _ _ h => h) (Or.inl ⟨by rfl, ?_⟩) ?_ ?_
              rotate_left
              · intro w'
                go_simp
                with_reducible rfl
              rotate_left
              · simp only [Act.put, List.setIfInBounds_toArray, List.set_cons_zero, List.set_cons_succ, i64_w, i32_w]
                rfl
              refine pure_ (i := 4) (N := some 136) (v := ?_) (a' := ?_) #[true, false, true, true, true, false, false, false, false, false, false, false] rfl rfl (by kernel_rfl) (fun _ _ _ h => h) (Or.inl ⟨by rfl, ?_⟩) ?_ ?_
              rotate_left
              · intro w'
                go_simp
                with_reducible rfl
              rotate_left
              · simp only [Act.put, List.setIfInBounds_toArray, List.set_cons_zero, List.set_cons_succ, i64_w, i32_w]
                rfl
              refine take_ (i := 5) (N := some 137) (v := ?_) (a' := ?_) #[true, false, true, true, true, true, false, false, false, false, false, false] rfl rfl (by kernel_rfl) (fun _ _ _ h => h) (Or.inl ⟨by rfl, ?_⟩) hHeld ?_ ?_
              rotate_left
              · intro w' s0
                go_simp
                with_reducible rfl
              rotate_left
              · simp only [Act.put, List.setIfInBounds_toArray, List.set_cons_zero, List.set_cons_succ, i64_w, i32_w]
                rfl
              refine one_ (i := 1) (N := some 133) #[true, true, true, true, true, true, false, false, false, false, false, false] rfl rfl (by kernel_rfl) (by decide) (fun K hK => ?_)
              refine goes_ Try.func38 (by kernel_rfl) rfl #[.pointer (some ⟨gr, 0, none⟩)] (by rfl) rfl rfl (by simp only [List.map_toArray, List.map_cons, List.map_nil]; rfl) ?_
              with_reducible refine (rd_Num (w := w10.drew) (R10.out.below (below_drew (Below.refl _ _))) HKZ.out).mono ?_
              rintro e w11 ⟨rfl, hR, hb, hk⟩
              refine ⟨_, rfl, ?_⟩
              have B11 := Aside0.mk ((below_step B10.out (below_drew (Below.refl _ _))).trans (hb.mono G10.out))
              have R11 := Aside0.mk hR
              clear hR hb hk
              refine hK.out _ _ (HCELL.out _ (B11.out)) (fun hHeld => ?_)
              clear hK K
              refine norm_ (a' := ?_) ?_ ?_
              rotate_left
              · show Act.put _ (some 133) _ = _
                simp only [Act.put, List.setIfInBounds_toArray, List.set_cons_zero, List.set_cons_succ, i64_w, i32_w]
                rfl
              refine pure_ (i := 6) (N := some 138) (v := ?_) (a' := ?_) #[true, true, true, true, true, true, true, false, false, false, false, false] rfl rfl (by kernel_rfl) (fun _ _ _ h => h) (Or.inl ⟨by rfl, ?_⟩) ?_ ?_
              rotate_left
              · intro w'
                go_simp
                with_reducible rfl
              rotate_left
              · simp only [Act.put, List.setIfInBounds_toArray, List.set_cons_zero, List.set_cons_succ, i64_w, i32_w]
                rfl
              refine pure_ (i := 7) (N := some 139) (v := ?_) (a' := ?_) #[true, true, true, true, true, true, true, true, false, false, false, false] rfl rfl (by kernel_rfl) (fun _ _ _ h => h) (Or.inl ⟨by rfl, ?_⟩) ?_ ?_
              rotate_left
              · intro w'
                go_simp
                with_reducible rfl
              rotate_left
              · simp only [Act.put, List.setIfInBounds_toArray, List.set_cons_zero, List.set_cons_succ, i64_w, i32_w]
                rfl
              refine pure_ (i := 8) (N := some 140) (v := ?_) (a' := ?_) #[true, true, true, true, true, true, true, true, true, false, false, false] rfl rfl (by kernel_rfl) (fun _ _ _ h => h) (Or.inl ⟨by rfl, ?_⟩) ?_ ?_
              rotate_left
              · intro w'
                go_simp
                with_reducible rfl
              rotate_left
              · simp only [Act.put, List.setIfInBounds_toArray, List.set_cons_zero, List.set_cons_succ, i64_w, i32_w]
                rfl
              refine one_ (i := 9) (N := some 141) #[true, true, true, true, true, true, true, true, true, true, false, false] rfl rfl (by kernel_rfl) (by decide) (fun K hK => ?_)
              refine goes_ Try.func39 (by kernel_rfl) rfl #[.pointer (some ⟨gr, 0, none⟩)] (by rfl) rfl rfl (by simp only [List.map_toArray, List.map_cons, List.map_nil]; rfl) ?_
              with_reducible refine (rd_End R11.out HN2.out).mono ?_
              rintro e w12 ⟨rfl, hR, hb, hk⟩
              refine ⟨_, rfl, ?_⟩
              have B12 := Aside0.mk (B11.out.trans (hb.mono G10.out))
              clear hR hb hk
              refine hK.out _ _ (HCELL.out _ (B12.out)) (fun hHeld => ?_)
              clear hK K
              refine norm_ (a' := ?_) ?_ ?_
              rotate_left
              · show Act.put _ (some 141) _ = _
                simp only [Act.put, List.setIfInBounds_toArray, List.set_cons_zero, List.set_cons_succ, i64_w, i32_w]
                rfl
              refine pure_ (i := 10) (N := some 142) (v := ?_) (a' := ?_) #[true, true, true, true, true, true, true, true, true, true, true, false] rfl rfl (by kernel_rfl) (fun _ _ _ h => h) (Or.inl ⟨by rfl, ?_⟩) ?_ ?_
              rotate_left
              · intro w'
                go_simp
                with_reducible rfl
              rotate_left
              · simp only [Act.put, List.setIfInBounds_toArray, List.set_cons_zero, List.set_cons_succ, i64_w, i32_w]
                rfl
              refine pure_ (i := 11) (N := some 143) (v := ?_) (a' := ?_) #[true, true, true, true, true, true, true, true, true, true, true, true] rfl rfl (by kernel_rfl) (fun _ _ _ h => h) (Or.inl ⟨by rfl, ?_⟩) ?_ ?_
              rotate_left
              · intro w'
                go_simp
                with_reducible rfl
              rotate_left
              · simp only [Act.put, List.setIfInBounds_toArray, List.set_cons_zero, List.set_cons_succ, i64_w, i32_w]
                rfl
              refine done_ (by kernel_rfl) ?_

              go_wp2_with fail
              go_roundg (gk - 1)
              case measure => have := NK.out.2; omega
              case rel => exact ⟨j + 1, (by first | rw [b4] | exact congrArg _ (by omega)), ⟨NK.out.1.1, NK.out.1.2⟩, B12⟩
            · have d5 : decide ((j : Int) < (gs.length : Int)) = false := decide_eq_false (by omega)
              obtain rfl : j = gs.length := by have := HJ.out; omega
              have W9 := Aside0.mk (W8.out.below B9.out); have B9b := Aside0.mk (below_step B8.out B9.out)
              clear hj
              go_wp2_with (first | ((with_reducible refine gate_dst (N := 146) rfl ?_); refine V_litmark wr.heap.size 22 5 ?hg ?hg2 Try.underlying22 Try.underlying5 (xs := [122]) (inner := [.int .u8 122]) (ok := fun k => k = wr.heap.size) rfl ?hr ?hr2 rfl (Below.refl _ _) (Nat.le_refl _) (by simp) ?_; (case hg => rfl); (case hg2 => rfl); (case hr => first | (go_simp; done) | (go_simp; rfl)); (case hr2 => intro W_; first | (go_simp; done) | (go_simp; rfl)); intro v3 w10 ho hb hg_; clear hg_; obtain ⟨A10, c10, e_, hc_, hF_⟩ := ho; subst e_; have F10 := Aside0.mk hF_; have L10 := Aside0.mk hc_; have W10 := Aside0.mk (W9.out.below hb); have B10 := Aside0.mk (below_step B9b.out hb); clear hb hc_ hF_))
              refine (l_Add (x := [122]) W10.out (OK.out _ _ _ _ (by have := HGA.out; omega) (by have := HGA.out; omega)) (by rw [HPUT.out]; exact OK.out _ _ _ _ (by have := HGA.out; omega) (by have := HGA.out; have := HGA2.out; omega)) B10.out.size (F10.out _ (fun _ _ _ => rfl)) L10.out HB2.out (by have := HGL.out; have := HL0.out; omega)).mono ?_; rintro x w11 ⟨rfl, hW, hB⟩; rw [HADD.out] at hW ⊢; dsimp only at hW ⊢; have D11 := Aside0.mk (hW.1.mono (P' := fun k => w.heap.size ≤ k) (fun k hk => hk.1)); have B11 := Aside0.mk (B10.out.trans hB); clear hW hB
              go_wp2_with fail
              refine (l_Open D11.out (OK.out _ _ _ _ (by have := HGA.out; have := HGA2.out; omega) (by have := HGA.out; have := HGA2.out; omega)) B11.out.size rfl (by simp only; omega) HGAB.out).mono ?_; rintro x w12 ⟨gl3, v12, rfl, hW, hS, hB⟩
              dsimp only at hW hS
              rw [HS3.out] at hS
              obtain ⟨A12, c12, rfl, hc12, hC12⟩ := Kd.S_reads hS
              have B12 := Aside0.mk (B11.out.trans hB)
              obtain ⟨ad, Ax, cx, rfl, hx, hle, hcx⟩ := at_L1 hC12 ((nq : Int)) (of_eq_true n6) (of_eq_true n7)
              rw [HLA.out] at hx hcx
              try rw [Int.toNat_natCast] at hx
              have hcv := Kd.C_string (P := Try.prog) (c := cx) Try.underlying22 Try.underlying5 Try.underlying9 hcx
              have hs : strOfNums [122] = ⟨#[122]⟩ := by decide +kernel
              rw [hs] at hcv
              simp only [List.length_cons, List.length_nil, Nat.zero_add] at hx hcv
              dsimp only
              clear hs hle hcx hW hS hB hc12 hC12
              go_wp2_with fail
              go_ret
              exact ⟨rfl, B12.out⟩
      · have e1 : decide (keep ≥ (sz : Int)) = false := decide_eq_false hg1
        have e2 : decide ((sz : Int) ≤ keep) = false := decide_eq_false hg1
        have HGG := Aside0.mk (show ¬ ((sz : Int) ≤ keep ∧ turn = 0) from fun h => hg1 h.1)
        clear hg1
        obtain ⟨gs, hgs⟩ : ∃ gs, gs = (l0.take (l0.length - 1)).map Code.enc := ⟨_, rfl⟩
        have hgl : gs.length = (l0.length - 1) := by rw [hgs, List.length_map, List.length_take]; have := HL0.out; omega
        have hsc : Frame.scan X.length X = (gs, ((Frame.all gs).length : Int)) ∧ X.take (Frame.all gs).length = Frame.all gs := by rw [hgs]; exact HX5.out HGG.out
        have hop : DS.opened ⟨65536, X, X, false, false, -1⟩ = ⟨65536, Frame.all gs, Frame.all gs, false, false, -1⟩ := Torn.opened_of hsc.1 hsc.2
        have hgb : ∀ d ∈ gs, Frame.Bytes d ∧ d.length ≤ 16384 := fun d hd => by
          rw [hgs] at hd
          obtain ⟨y, hy, rfl⟩ := List.mem_map.mp hd
          have := Torn.enc_ok (NN.out y (List.mem_of_mem_take hy))
          exact ⟨this.1, by omega⟩
        have hb2 : Frame.Bytes [122] := fun x hx => by rw [List.mem_singleton.mp hx]; exact ⟨by decide, by decide⟩
        have hgb2 : ∀ d ∈ gs ++ [[122]], Frame.Bytes d ∧ d.length ≤ 16384 := fun d hd => (List.mem_append.mp hd).elim (hgb d) (fun q => by rw [List.mem_singleton.mp q]; exact ⟨hb2, by simp⟩)
        have hga : (Frame.all gs).length ≤ 540 := by rw [hgs]; exact HAL.out _
        have hga2 : (Frame.all (gs ++ [[122]])).length = (Frame.all gs).length + 9 := by rw [Frame.all_append, List.length_append]; rfl
        have hgab : Frame.Bytes (Frame.all (gs ++ [[122]])) := Frame.all_bytes (fun d hd => (hgb2 d hd).1)
        obtain ⟨gz, hgz⟩ : ∃ gz, gz = gs ++ [[122]] := ⟨_, rfl⟩
        rw [← hgz] at hgb2 hga2 hgab
        have hgzl : gz.length = gs.length + 1 := by rw [hgz]; simp
        obtain ⟨hs3, ho3⟩ := Torn.opened_all (R := 65536) (s := Frame.all gz) hgb2
        have hput : DS.put ⟨65536, Frame.all gs, Frame.all gs, false, false, -1⟩ [122] (gs.length : Int) = (⟨65536, Frame.all gs, Frame.all gz, false, false, -1⟩, 0, ((gs.length + 1 : Nat) : Int)) := by
          rw [put_free rfl (by simp only; omega) (by simp) (by simp only [List.length_singleton]; omega), hgz, Frame.all_append]
          simp [Frame.all]
        have hadd : DS.add ⟨65536, Frame.all gs, Frame.all gs, false, false, -1⟩ [122] (gs.length : Int) = (⟨65536, Frame.all gz, Frame.all gz, false, false, -1⟩, 0, ((gs.length + 1 : Nat) : Int)) := by unfold DS.add; rw [hput]; rfl
        have hgi : ∀ j, j < gs.length → rd_L1 gs (j : Int) = Code.enc (rd l0 (j : Int)) ∧ j < l0.length := fun j hj => by
          have hj2 : j < l0.length := by have := HL0.out; omega
          refine ⟨?_, hj2⟩
          rw [rdL1 hj, rd_nat hj2]
          simp only [hgs, List.getElem_map, List.getElem_take]
        have hlast : rd_L1 gz ((nq : Int)) = [122] := by
          rw [show ((nq : Int) : Int) = (gs.length : Int) by have := HL0.out; have := HNQ.out; omega, rdL1 (by omega)]
          simp [hgz]
        have HGZ := Aside0.mk hgzl
        have n3 : ((gz.length : Int) == (l0.length : Int)) = true := beq_iff_eq.mpr (by have := HL0.out; have := HNQ.out; omega)
        have n4 := eq_true (show (gz.length : Int) = (l0.length : Int) by have := HL0.out; have := HNQ.out; omega)
        have n5 : wrap64 ((nq : Int) + 1) = (l0.length : Int) := by have := HL0.out; have := HNQ.out; unfold wrap64; omega
        have n6 := eq_true (show (0 : Int) ≤ (nq : Int) by have := HL0.out; have := HNQ.out; omega)
        have n7 := eq_true (show (nq : Int) < (gz.length : Int) by have := HL0.out; have := HNQ.out; omega)
        have n8 : decide ((0 : Int) ≤ (nq : Int)) = true := decide_eq_true (by have := HL0.out; have := HNQ.out; omega)
        have n9 : decide ((nq : Int) < (gz.length : Int)) = true := decide_eq_true (by have := HL0.out; have := HNQ.out; omega)
        have HGL := Aside0.mk hgl; have HSC := Aside0.mk hsc; have HOP := Aside0.mk hop; have HGA := Aside0.mk hga; have HGA2 := Aside0.mk hga2; have HGAB := Aside0.mk hgab; have HS3 := Aside0.mk hs3; have HO3 := Aside0.mk ho3
        have HPUT := Aside0.mk hput; have HADD := Aside0.mk hadd; have HGI := Aside0.mk hgi; have HLA := Aside0.mk hlast; have HB2 := Aside0.mk hb2
        have n1 : ((gs.length : Int) != (nq : Int)) = false := bne_eq_false_iff_eq.mpr (by have := HL0.out; have := HNQ.out; omega)
        have n2 := eq_true (show (gs.length : Int) = (nq : Int) by have := HL0.out; have := HNQ.out; omega)
        clear hgs hgl hsc hop hgb hb2 hgb2 hga hga2 hgab hs3 ho3 hput hadd hgi hlast hgz hgzl
        go_wp2_with fail
        refine (s_Crash (N := w.heap.size) (keep := keep) (turn := turn) D5.out (OK.out _ _ _ _ (by have := HPL.out.1; omega) (by have := HPL.out.2; omega)) (fun _ => HPA.out) HT.out (fun k hk => hk) B5.out.size).mono ?_; rintro x w6 ⟨rfl, hD, hB⟩; rw [HX1.out] at hD; have D6 := Aside0.mk hD; have B6 := Aside0.mk (B5.out.trans hB); clear hD hB
        go_wp2_with fail
        refine (s_Up (N := w.heap.size) D6.out (OK.out _ _ _ _ (by have := HPL.out.1; omega) (by have := HX3.out; omega)) (fun k hk => hk) B6.out.size).mono ?_; rintro x w7 ⟨rfl, hD, hB⟩; have D7 := Aside0.mk (show IsD _ w7 g ⟨65536, X, X, false, false, -1⟩ from hD); have B7 := Aside0.mk (B6.out.trans hB); clear hD hB
        go_wp2_with fail
        refine (l_Open D7.out (OK.out _ _ _ _ (by have := HX3.out; omega) (by have := HX3.out; omega)) B7.out.size rfl (by simp only; omega) HX2.out).mono ?_; rintro x w8 ⟨gl2, v8, rfl, hW, hS, hB⟩
        dsimp only at hW hS
        rw [HOP.out, HSC.out.1] at hW; rw [HSC.out.1] at hS
        obtain ⟨A8, c8, rfl, hc8, hC8⟩ := Kd.S_reads hS
        dsimp only at hW hC8 hc8 ⊢
        have W8 := Aside0.mk hW; have C8 := Aside0.mk hC8; have B8 := Aside0.mk (B7.out.trans hB)
        clear hW hS hB hC8 hc8
        go_wp2_with fail
        (try simp only [r2, r3, r4])
        go_loopg [125] (gs.length + 1) (fun kq v125 w' => ∃ (j : Nat), v125 = .int .i64 (j : Int) ∧ Aside0 (j ≤ gs.length ∧ j + kq = gs.length + 1) ∧ Aside0 (Below w8.heap.size w8 w'))
        case atStart => exact ⟨0, rfl, ⟨by omega, by omega⟩, ⟨Below.refl _ _⟩⟩
        case round =>
          obtain ⟨j, rfl, HJ, B9⟩ := hrel
          by_cases hj : j < gs.length
          · have d5 : decide ((j : Int) < (gs.length : Int)) = true := decide_eq_true (by omega)
            have hj0 : (0 : Int) ≤ (j : Int) := by omega
            have hj1 : (j : Int) < (gs.length : Int) := by omega
            obtain ⟨ad, Ax, cx, rfl, hx, hle, hcx⟩ := at_L1 C8.out (j : Int) hj0 hj1
            replace hx := cell_kept hx (Kept.of_below B9.out (fun _ => False)) id
            obtain ⟨hge, hj2⟩ := HGI.out j hj
            have hj3 : (j : Int) < (l0.length : Int) := by omega
            obtain ⟨ad0, rfl, hz⟩ := Kd.at_int (Kd.C_below HR0.out B8.out) (j : Int) hj0 hj3
            rw [Int.toNat_natCast] at hz hx
            rw [hge] at hx hle hcx
            have hzm : rd l0 (j : Int) ∈ l0 := by rw [rd_nat hj2]; exact List.getElem_mem hj2
            obtain ⟨z, hze⟩ : ∃ z, z = rd l0 (j : Int) := ⟨_, rfl⟩
            rw [← hze] at hx hle hcx hz hzm
            have hzi := NN.out _ hzm
            obtain ⟨hn1, hn2⟩ := Torn.read_num hzi
            obtain ⟨kz, hkz⟩ := hn1.rounds
            have hel := (Torn.enc_ok hzi).2
            obtain ⟨b, hbe⟩ : ∃ b, b = Code.enc z := ⟨_, rfl⟩
            rw [← hbe] at hx hle hcx hn2 hkz hel
            have HCELL := Aside0.mk (show ∀ W, Below w8.heap.size w8 W → W.cell? (ad0.add j) = some (.int .i64 z) from fun W hb => cell_kept hz (Kept.of_below hb (fun _ => False)) id); have HLE := Aside0.mk hle; have HCX := Aside0.mk hcx; have HN2 := Aside0.mk hn2; have HKZ := Aside0.mk hkz; have HEL := Aside0.mk hel
            have b4 : wrap64 ((j : Int) + 1) = ((j + 1 : Nat) : Int) := by have := HL0.out; unfold wrap64; omega
            have NK := Aside0.mk (show (j + 1 ≤ gs.length ∧ j + 1 + (gk - 1) = gs.length + 1) ∧ 0 < gk from nk_ hj HJ.out.2)
            have q1 := eq_true hj0
            have q2 := eq_true hj1
            have q3 := eq_true hj3
            have q4 : decide ((0 : Int) ≤ (j : Int)) = true := decide_eq_true hj0
            have q5 : decide ((j : Int) < (l0.length : Int)) = true := decide_eq_true hj3
            have q6 : (z != z) = false := bne_self_eq_false z
            clear hj hge hj2 hzm hze hzi hn1 hn2 hkz hel hbe hle hcx hz
            go_wp2_with fail
            refine (code_Read.callsm (l0 := b) rfl (Kd.C_below HCX.out B9.out) HLE.out (by have := HEL.out; omega)).mono ?_; rintro e w10 ⟨gr, rfl, hg, hR, hB⟩; have R10 := Aside0.mk hR; have B10 := Aside0.mk (below_step B9.out hB); have G10 := Aside0.mk (show w8.heap.size ≤ gr from Nat.le_trans B9.out.size hg); clear hg hR hB
            go_wp2_with fail
            refine start_ (n := 12) (S := fun w' => w'.cell? (ad0.add j) = some (.int .i64 z)) (ds := []) #[false, false, false, false, false, false, false, false, false, false, false, false] (by kernel_rfl) rfl rfl (HCELL.out _ (below_step B10.out (below_drew (Below.refl _ _)))) (fun hHeld => ?_)
            refine pure_ (i := 0) (N := some 132) (v := ?_) (a' := ?_) #[true, false, false, false, false, false, false, false, false, false, false, false] rfl rfl (by kernel_rfl) (fun _ _ _ h => h) (Or.inl ⟨by rfl, ?_⟩) ?_ ?_
            rotate_left
            · intro w'
              go_simp
              with_reducible rfl
            rotate_left
            · simp only [Act.put, List.setIfInBounds_toArray, List.set_cons_zero, List.set_cons_succ, i64_w, i32_w]
              rfl
            refine pure_ (i := 2) (N := some 134) (v := ?_) (a' := ?_) #[true, false, true, false, false, false, false, false, false, false, false, false] rfl rfl (by kernel_rfl) (fun _ _ _ h => h) (Or.inl ⟨by rfl, ?_⟩) ?_ ?_
            rotate_left
            · intro w'
              go_simp
              with_reducible rfl
            rotate_left
            · simp only [Act.put, List.setIfInBounds_toArray, List.set_cons_zero, List.set_cons_succ, i64_w, i32_w]
              rfl
            refine pure_ (i := 3) (N := some 135) (v := ?_) (a' := ?_) #[true, false, true, true, false, false, false, false, false, false, false, false] rfl rfl (by kernel_rfl) (fun _ _ _ h => h) (Or.inl ⟨by rfl, ?_⟩) ?_ ?_
            rotate_left
            · intro w'
              go_simp
              with_reducible rfl
            rotate_left
            · simp only [Act.put, List.setIfInBounds_toArray, List.set_cons_zero, List.set_cons_succ, i64_w, i32_w]
              rfl
            refine pure_ (i := 4) (N := some 136) (v := ?_) (a' := ?_) #[true, false, true, true, true, false, false, false, false, false, false, false] rfl rfl (by kernel_rfl) (fun _ _ _ h => h) (Or.inl ⟨by rfl, ?_⟩) ?_ ?_
            rotate_left
            · intro w'
              go_simp
              with_reducible rfl
            rotate_left
            · simp only [Act.put, List.setIfInBounds_toArray, List.set_cons_zero, List.set_cons_succ, i64_w, i32_w]
              rfl
            refine take_ (i := 5) (N := some 137) (v := ?_) (a' := ?_) #[true, false, true, true, true, true, false, false, false, false, false, false] rfl rfl (by kernel_rfl) (fun _ _ _ h => h) (Or.inl ⟨by rfl, ?_⟩) hHeld ?_ ?_
            rotate_left
            · intro w' s0
              go_simp
              with_reducible rfl
            rotate_left
            · simp only [Act.put, List.setIfInBounds_toArray, List.set_cons_zero, List.set_cons_succ, i64_w, i32_w]
              rfl
            refine one_ (i := 1) (N := some 133) #[true, true, true, true, true, true, false, false, false, false, false, false] rfl rfl (by kernel_rfl) (by decide) (fun K hK => ?_)
            refine goes_ Try.func38 (by kernel_rfl) rfl #[.pointer (some ⟨gr, 0, none⟩)] (by rfl) rfl rfl (by simp only [List.map_toArray, List.map_cons, List.map_nil]; rfl) ?_
            with_reducible refine (rd_Num (w := w10.drew) (R10.out.below (below_drew (Below.refl _ _))) HKZ.out).mono ?_
            rintro e w11 ⟨rfl, hR, hb, hk⟩
            refine ⟨_, rfl, ?_⟩
            have B11 := Aside0.mk ((below_step B10.out (below_drew (Below.refl _ _))).trans (hb.mono G10.out))
            have R11 := Aside0.mk hR
            clear hR hb hk
            refine hK.out _ _ (HCELL.out _ (B11.out)) (fun hHeld => ?_)
            clear hK K
            refine norm_ (a' := ?_) ?_ ?_
            rotate_left
            · show Act.put _ (some 133) _ = _
              simp only [Act.put, List.setIfInBounds_toArray, List.set_cons_zero, List.set_cons_succ, i64_w, i32_w]
              rfl
            refine pure_ (i := 6) (N := some 138) (v := ?_) (a' := ?_) #[true, true, true, true, true, true, true, false, false, false, false, false] rfl rfl (by kernel_rfl) (fun _ _ _ h => h) (Or.inl ⟨by rfl, ?_⟩) ?_ ?_
            rotate_left
            · intro w'
              go_simp
              with_reducible rfl
            rotate_left
            · simp only [Act.put, List.setIfInBounds_toArray, List.set_cons_zero, List.set_cons_succ, i64_w, i32_w]
              rfl
            refine pure_ (i := 7) (N := some 139) (v := ?_) (a' := ?_) #[true, true, true, true, true, true, true, true, false, false, false, false] rfl rfl (by kernel_rfl) (fun _ _ _ h => h) (Or.inl ⟨by rfl, ?_⟩) ?_ ?_
            rotate_left
            · intro w'
              go_simp
              with_reducible rfl
            rotate_left
            · simp only [Act.put, List.setIfInBounds_toArray, List.set_cons_zero, List.set_cons_succ, i64_w, i32_w]
              rfl
            refine pure_ (i := 8) (N := some 140) (v := ?_) (a' := ?_) #[true, true, true, true, true, true, true, true, true, false, false, false] rfl rfl (by kernel_rfl) (fun _ _ _ h => h) (Or.inl ⟨by rfl, ?_⟩) ?_ ?_
            rotate_left
            · intro w'
              go_simp
              with_reducible rfl
            rotate_left
            · simp only [Act.put, List.setIfInBounds_toArray, List.set_cons_zero, List.set_cons_succ, i64_w, i32_w]
              rfl
            refine one_ (i := 9) (N := some 141) #[true, true, true, true, true, true, true, true, true, true, false, false] rfl rfl (by kernel_rfl) (by decide) (fun K hK => ?_)
            refine goes_ Try.func39 (by kernel_rfl) rfl #[.pointer (some ⟨gr, 0, none⟩)] (by rfl) rfl rfl (by simp only [List.map_toArray, List.map_cons, List.map_nil]; rfl) ?_
            with_reducible refine (rd_End R11.out HN2.out).mono ?_
            rintro e w12 ⟨rfl, hR, hb, hk⟩
            refine ⟨_, rfl, ?_⟩
            have B12 := Aside0.mk (B11.out.trans (hb.mono G10.out))
            clear hR hb hk
            refine hK.out _ _ (HCELL.out _ (B12.out)) (fun hHeld => ?_)
            clear hK K
            refine norm_ (a' := ?_) ?_ ?_
            rotate_left
            · show Act.put _ (some 141) _ = _
              simp only [Act.put, List.setIfInBounds_toArray, List.set_cons_zero, List.set_cons_succ, i64_w, i32_w]
              rfl
            refine pure_ (i := 10) (N := some 142) (v := ?_) (a' := ?_) #[true, true, true, true, true, true, true, true, true, true, true, false] rfl rfl (by kernel_rfl) (fun _ _ _ h => h) (Or.inl ⟨by rfl, ?_⟩) ?_ ?_
            rotate_left
            · intro w'
              go_simp
              with_reducible rfl
            rotate_left
            · simp only [Act.put, List.setIfInBounds_toArray, List.set_cons_zero, List.set_cons_succ, i64_w, i32_w]
              rfl
            refine pure_ (i := 11) (N := some 143) (v := ?_) (a' := ?_) #[true, true, true, true, true, true, true, true, true, true, true, true] rfl rfl (by kernel_rfl) (fun _ _ _ h => h) (Or.inl ⟨by rfl, ?_⟩) ?_ ?_
            rotate_left
            · intro w'
              go_simp
              with_reducible rfl
            rotate_left
            · simp only [Act.put, List.setIfInBounds_toArray, List.set_cons_zero, List.set_cons_succ, i64_w, i32_w]
              rfl
            refine done_ (by kernel_rfl) ?_

            go_wp2_with fail
            go_roundg (gk - 1)
            case measure => have := NK.out.2; omega
            case rel => exact ⟨j + 1, (by first | rw [b4] | exact congrArg _ (by omega)), ⟨NK.out.1.1, NK.out.1.2⟩, B12⟩
          · have d5 : decide ((j : Int) < (gs.length : Int)) = false := decide_eq_false (by omega)
            obtain rfl : j = gs.length := by have := HJ.out; omega
            have W9 := Aside0.mk (W8.out.below B9.out); have B9b := Aside0.mk (below_step B8.out B9.out)
            clear hj
            go_wp2_with (first | ((with_reducible refine gate_dst (N := 146) rfl ?_); refine V_litmark wr.heap.size 22 5 ?hg ?hg2 Try.underlying22 Try.underlying5 (xs := [122]) (inner := [.int .u8 122]) (ok := fun k => k = wr.heap.size) rfl ?hr ?hr2 rfl (Below.refl _ _) (Nat.le_refl _) (by simp) ?_; (case hg => rfl); (case hg2 => rfl); (case hr => first | (go_simp; done) | (go_simp; rfl)); (case hr2 => intro W_; first | (go_simp; done) | (go_simp; rfl)); intro v3 w10 ho hb hg_; clear hg_; obtain ⟨A10, c10, e_, hc_, hF_⟩ := ho; subst e_; have F10 := Aside0.mk hF_; have L10 := Aside0.mk hc_; have W10 := Aside0.mk (W9.out.below hb); have B10 := Aside0.mk (below_step B9b.out hb); clear hb hc_ hF_))
            refine (l_Add (x := [122]) W10.out (OK.out _ _ _ _ (by have := HGA.out; omega) (by have := HGA.out; omega)) (by rw [HPUT.out]; exact OK.out _ _ _ _ (by have := HGA.out; omega) (by have := HGA.out; have := HGA2.out; omega)) B10.out.size (F10.out _ (fun _ _ _ => rfl)) L10.out HB2.out (by have := HGL.out; have := HL0.out; omega)).mono ?_; rintro x w11 ⟨rfl, hW, hB⟩; rw [HADD.out] at hW ⊢; dsimp only at hW ⊢; have D11 := Aside0.mk (hW.1.mono (P' := fun k => w.heap.size ≤ k) (fun k hk => hk.1)); have B11 := Aside0.mk (B10.out.trans hB); clear hW hB
            go_wp2_with fail
            refine (l_Open D11.out (OK.out _ _ _ _ (by have := HGA.out; have := HGA2.out; omega) (by have := HGA.out; have := HGA2.out; omega)) B11.out.size rfl (by simp only; omega) HGAB.out).mono ?_; rintro x w12 ⟨gl3, v12, rfl, hW, hS, hB⟩
            dsimp only at hW hS
            rw [HS3.out] at hS
            obtain ⟨A12, c12, rfl, hc12, hC12⟩ := Kd.S_reads hS
            have B12 := Aside0.mk (B11.out.trans hB)
            obtain ⟨ad, Ax, cx, rfl, hx, hle, hcx⟩ := at_L1 hC12 ((nq : Int)) (of_eq_true n6) (of_eq_true n7)
            rw [HLA.out] at hx hcx
            try rw [Int.toNat_natCast] at hx
            have hcv := Kd.C_string (P := Try.prog) (c := cx) Try.underlying22 Try.underlying5 Try.underlying9 hcx
            have hs : strOfNums [122] = ⟨#[122]⟩ := by decide +kernel
            rw [hs] at hcv
            simp only [List.length_cons, List.length_nil, Nat.zero_add] at hx hcv
            dsimp only
            clear hs hle hcx hW hS hB hc12 hC12
            go_wp2_with fail
            go_ret
            exact ⟨rfl, B12.out⟩
end Go.Proofs.Ythpdmjpimeibnaa.Pure
