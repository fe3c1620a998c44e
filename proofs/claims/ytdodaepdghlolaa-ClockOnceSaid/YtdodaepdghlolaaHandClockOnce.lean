/-
  ClockOnce, walked by hand: names that are set are each told once, just when they are due.
-/
import Derived.Test.YtdodaepdghlolaaHTicks
import Derived.Test.YtdodaepdghlolaaPStr
import Derived.Test.YtdodaepdghlolaaRowClockOnce
namespace Go.Proofs.Ytdodaepdghlolaa.Pure.Clk
open Go.RowKit Go.Proofs.Ytdodaepdghlolaa.M Go.Proofs.YtdodaepdghlolaaW.PrintWords Go.Proofs.YtdodaepdghlolaaW.PrintLast Go.Proofs.YtdodaepdghlolaaW.PrintMore Go.Proofs.Ytdodaepdghlolaa.Pure
set_option linter.unusedVariables false
set_option linter.unusedSimpArgs false

theorem Ck.size1 {N : Nat} {P : Nat → Prop} {w : World} {g : Nat} {now turns : Int} {d : List Du} (h : Ck N P w g now turns d) : N ≤ w.heap.size := by
  obtain ⟨m, q, A, c, D, h⟩ := h
  exact h.isq.size
theorem nkO {i n gk : Nat} (hi : i < n) (h : i ≤ n ∧ i + gk = n + 1) : (i + 1 ≤ n ∧ i + 1 + (gk - 1) = n + 1) ∧ 0 < gk := by omega
/-- the name of number i -/
def nmO (i : Nat) : ByteArray := strOfNums [(i : Int) % 256, 120]
theorem nmO_bs (i : Nat) : bs (nmO i) = [(i : Int) % 256, 120] := bs_str _ (fun x hx => by
  rcases List.mem_cons.1 hx with rfl | hx
  · exact ⟨by omega, by omega⟩
  · rw [List.mem_singleton.1 hx]; exact ⟨by omega, by omega⟩)
theorem nmO_inj {i j : Nat} (hi : i < 256) (hj : j < 256) (h : nmO i = nmO j) : i = j := by
  have h2 : bs (nmO i) = bs (nmO j) := by rw [h]
  rw [nmO_bs, nmO_bs] at h2
  injection h2 with h3 h4
  omega
theorem nmO_size (i : Nat) : (nmO i).size = 2 := by rw [← bs_length, nmO_bs]; rfl
theorem nmO_at {k : Nat} (hk : k < 256) (hz : 0 < (nmO k).size) : wrap64 ((((nmO k)[0]'hz).toNat : Nat) : Int) = (k : Int) := by
  show wrap64 (((UInt8.ofNat ((k : Int) % 256).toNat).toNat : Nat) : Int) = (k : Int)
  rw [UInt8.toNat_ofNat']
  unfold wrap64
  omega
theorem szO (i : Nat) : (nmO i).size ≤ 9223372036854775807 := by rw [nmO_size]; decide
/-- the numbers of those that are set -/
def idx (l : List Int) (i : Nat) : List Nat := (List.range i).filter (fun k => decide (1 ≤ l.getD k 0 ∧ l.getD k 0 ≤ 50))
/-- what is due behind i numbers -/
def DO (l : List Int) (i : Nat) (d : List Du) : Prop := d.map (fun x => (x.nm, x.at_)) = (idx l i).map (fun k => (nmO k, l.getD k 0))
theorem idx_mem {l : List Int} {i k : Nat} (h : k ∈ idx l i) : k < i ∧ 1 ≤ l.getD k 0 ∧ l.getD k 0 ≤ 50 := by
  have := List.mem_filter.1 h
  exact ⟨List.mem_range.1 this.1, by simpa using this.2⟩
theorem idx_yes {l : List Int} {i : Nat} (h : 1 ≤ l.getD i 0 ∧ l.getD i 0 ≤ 50) : idx l (i + 1) = idx l i ++ [i] := by
  unfold idx
  rw [List.range_succ, List.filter_append]
  congr 1
  rw [List.filter_cons, if_pos (by simpa using h)]
  rfl
theorem idx_no {l : List Int} {i : Nat} (h : ¬(1 ≤ l.getD i 0 ∧ l.getD i 0 ≤ 50)) : idx l (i + 1) = idx l i := by
  unfold idx
  rw [List.range_succ, List.filter_append]
  have : [i].filter (fun k => decide (1 ≤ l.getD k 0 ∧ l.getD k 0 ≤ 50)) = [] := by rw [List.filter_cons, if_neg (by simpa using h)]; rfl
  rw [this, List.append_nil]
theorem DO.mem {l : List Int} {i : Nat} {d : List Du} (h : DO l i d) {x : Du} (hx : x ∈ d) : ∃ k, k ∈ idx l i ∧ x.nm = nmO k ∧ x.at_ = l.getD k 0 := by
  have h1 : (x.nm, x.at_) ∈ d.map (fun x => (x.nm, x.at_)) := List.mem_map_of_mem hx
  rw [h] at h1
  obtain ⟨k, hk, e⟩ := List.mem_map.1 h1
  injection e with e1 e2
  exact ⟨k, hk, e1.symm, e2.symm⟩
theorem DO.len {l : List Int} {i : Nat} {d : List Du} (h : DO l i d) : d.length ≤ i := by
  have := congrArg List.length h
  rw [List.length_map, List.length_map] at this
  rw [this]
  have := List.length_filter_le (fun k => decide (1 ≤ l.getD k 0 ∧ l.getD k 0 ≤ 50)) (List.range i)
  rw [List.length_range] at this
  exact this
theorem DO.ne {l : List Int} {i : Nat} {d : List Du} (h : DO l i d) (hi : i < 256) : ∀ x ∈ d, x.nm ≠ nmO i := fun x hx e => by
  obtain ⟨k, hk, e1, -⟩ := h.mem hx
  have := (idx_mem hk).1
  have := nmO_inj (by omega) hi (e1.symm.trans e)
  omega
theorem DO.put {l : List Int} {i : Nat} {d : List Du} (h : DO l i d) (hv : 1 ≤ l.getD i 0 ∧ l.getD i 0 ≤ 50) (t : Int) (b : Nat) : DO l (i + 1) (d ++ [⟨nmO i, 0 + l.getD i 0, t, b⟩]) := by
  unfold DO
  rw [idx_yes hv, List.map_append, List.map_append, h]
  simp
theorem DO.skip {l : List Int} {i : Nat} {d : List Du} (h : DO l i d) (hv : ¬(1 ≤ l.getD i 0 ∧ l.getD i 0 ≤ 50)) : DO l (i + 1) d := by
  unfold DO
  rw [idx_no hv]
  exact h
/-- who is told at a time -/
theorem DO.told {l : List Int} {n : Nat} {d : List Du} (h : DO l n d) (t : Int) : (soon (late d t) (t + 1)).map Du.nm = ((idx l n).filter (fun k => decide (l.getD k 0 = t + 1))).map nmO := by
  rw [soon_late]
  have e1 : (d.filter (fun x => decide (x.at_ = t + 1))).map Du.nm = ((d.map (fun x => (x.nm, x.at_))).filter (fun p => decide (p.2 = t + 1))).map Prod.fst := by
    rw [List.filter_map, List.map_map]; rfl
  rw [e1, h, List.filter_map, List.map_map]
  rfl
theorem len_split (d : List Du) (t : Int) : (soon d t).length + (late d t).length = d.length := by
  unfold soon late
  induction d with
  | nil => rfl
  | cons x d ih =>
    rw [List.filter_cons, List.filter_cons]
    by_cases h : x.at_ ≤ t
    · have h2 : ¬ t < x.at_ := by omega
      simp only [h, h2, decide_true, decide_false, if_true, if_false, List.length_cons, Bool.false_eq_true]
      omega
    · have h2 : t < x.at_ := by omega
      simp only [h, h2, decide_true, decide_false, if_true, if_false, List.length_cons, Bool.false_eq_true]
      omega
theorem idx_sorted (l : List Int) (n : Nat) (p : Nat → Bool) : ((idx l n).filter p).Pairwise (· < ·) := (List.pairwise_lt_range.sublist List.filter_sublist).sublist List.filter_sublist
/-- the last number that was told -/
def lst (K : List Nat) (j : Nat) : Int := if j = 0 then -1 else (K.getD (j - 1) 0 : Int)
theorem lst_lt {K : List Nat} (h : K.Pairwise (· < ·)) {j : Nat} (hj : j < K.length) : lst K j < (K.getD j 0 : Int) := by
  unfold lst
  by_cases e : j = 0
  · rw [if_pos e]; omega
  · rw [if_neg e]
    have h1 : j - 1 < K.length := by omega
    have := List.pairwise_iff_getElem.1 h (j - 1) j h1 hj (by omega)
    simp only [List.getD_eq_getElem?_getD, List.getElem?_eq_getElem h1, List.getElem?_eq_getElem hj, Option.getD_some]
    omega
end Go.Proofs.Ytdodaepdghlolaa.Pure.Clk
namespace Go.Proofs.Ytdodaepdghlolaa.Pure
open Go.RowKit Go.Proofs.Ytdodaepdghlolaa.M Go.Proofs.YtdodaepdghlolaaW.PrintWords Go.Proofs.YtdodaepdghlolaaW.PrintLast Go.Proofs.YtdodaepdghlolaaW.PrintMore Go.Proofs.Ytdodaepdghlolaa.Pure
set_option linter.unusedVariables false
set_option linter.unusedSimpArgs false
open Clk
set_option maxHeartbeats 16000000 in
set_option maxRecDepth 100000 in
theorem ClockOnce_hand (A0 : Option Addr) (c0 : Nat) (l0 : List Int) (w : World) (hr : Kd.C (Kd.int .i64) w A0 l0.length l0) (hc : l0.length ≤ c0) (g0 : l0.length * 8 ≤ 140737488351232 ∧ ∀ x ∈ l0, (Lit.int .i64 x).wf = true) :
    Calls Try.prog 3 #[.slice A0 l0.length c0] w fun e w' => e = .returned (.bool true) ∧ Below w.heap.size w w' := by
  have HR := Aside0.mk hr
  clear hr hc g0
  go_enter Try.func3, Try.ntmps3
  go_wp2_with fail
  refine (ticks_calls w).mono ?_
  rintro x w1 ⟨rfl, hb⟩
  have B1 := Aside0.mk hb
  clear hb
  by_cases hu : l0.length > 100
  · have d1 : decide (100 < (l0.length : Int)) = true := decide_eq_true (by omega)
    have d2 : decide (100 < l0.length) = true := decide_eq_true hu
    have d3 : (100 < l0.length) = True := eq_true hu
    clear hu
    go_wp2_with fail
    go_ret
    exact ⟨rfl, B1.out⟩
  have u1 : decide (100 < (l0.length : Int)) = false := decide_eq_false (by omega)
  have u2 : decide (100 < l0.length) = false := decide_eq_false hu
  have u3 : (100 < l0.length) = False := eq_false hu
  have H100 := Aside0.mk (show l0.length ≤ 100 by omega)
  clear hu
  go_wp2_with fail
  refine (new_calls w1).mono ?_
  rintro x w2 ⟨⟨g, rfl, hC⟩, hb⟩
  have C2 := Aside0.mk hC; have B2 := Aside0.mk (below_step B1.out hb); have HN := Aside0.mk B1.out.size
  clear hC hb u1 u2 u3
  go_wp2_with fail
  go_loopg [4, 20] (l0.length + 1) (fun kq v4 v20 w' => ∃ (i : Nat) (d : List Du), v20 = .int .i64 (i : Int) ∧ v4 = .int .i64 (d.length : Int) ∧ Aside0 (i ≤ l0.length ∧ i + kq = l0.length + 1) ∧ Aside0 (∃ t, 0 ≤ t ∧ t ≤ (i : Int) ∧ Ck w1.heap.size (fun k => w1.heap.size ≤ k) w' g 0 t d) ∧ Aside0 (DO l0 i d) ∧ Aside0 (Below w.heap.size w w'))
  case atStart => exact ⟨0, [], rfl, rfl, ⟨by omega, by omega⟩, ⟨0, by decide, by decide, C2.out⟩, ⟨rfl⟩, B2⟩
  case round =>
    clear C2 B2
    obtain ⟨i, d, rfl, rfl, HI, CX, D3, B3⟩ := hrel
    obtain ⟨tt, ht0, ht1, hC⟩ := CX.out
    have C3 := Aside0.mk hC; have HT := Aside0.mk (show 0 ≤ tt ∧ tt ≤ (i : Int) from ⟨ht0, ht1⟩)
    clear CX hC ht0 ht1
    generalize wr = w3 at C3 B3 ⊢
    have HDL := Aside0.mk D3.out.len
    by_cases hi : i < l0.length
    rotate_left
    · have d1 : decide ((i : Int) < (l0.length : Int)) = false := decide_eq_false (by omega)
      have d2 : decide (i < l0.length) = false := decide_eq_false hi
      have d3 : (i < l0.length) = False := eq_false hi
      have hin : i = l0.length := by have := HI.out.1; omega
      rw [hin] at D3 HT
      have HIN := Aside0.mk hin
      clear hi hin
      go_wp2_with fail
      have HDL2 := Aside0.mk (show d.length ≤ 100 by have := HDL.out; have := H100.out; have := HI.out.1; omega)
      have HSO := Aside0.mk (show ∀ x ∈ d, 0 < x.at_ from fun x hx => by obtain ⟨k, hk, _, e⟩ := D3.out.mem hx; rw [e]; have := (idx_mem hk).2; omega)
      have HSL := Aside0.mk (show ∀ x ∈ d, x.at_ ≤ 50 from fun x hx => by obtain ⟨k, hk, _, e⟩ := D3.out.mem hx; rw [e]; have := (idx_mem hk).2; omega)
      have L3 := Aside0.mk (soon_nil HSO.out).2
      have CL := Aside0.mk (show Ck w1.heap.size (fun k => w1.heap.size ≤ k) w3 g ((0 : Nat) : Int) tt (late d ((0 : Nat) : Int)) by rw [show ((0 : Nat) : Int) = 0 from rfl, L3.out]; exact C3.out)
      have e0 : (d.length : Int) = (((late d ((0 : Nat) : Int)).length : Nat) : Int) := by rw [show ((0 : Nat) : Int) = 0 from rfl, L3.out]
      clear C3 L3 HSO HDL HI d1 d2 d3
      go_loopg [4, 7] 51 (fun kq v4 v7 w' => ∃ (t : Nat) (P : Nat → Prop), v7 = .int .i64 (((t : Nat) : Int) + 1) ∧ v4 = .int .i64 (((late d (t : Int)).length : Nat) : Int) ∧ Aside0 (t ≤ 50 ∧ t + kq = 50 + 1) ∧ Aside0 (Ck w1.heap.size P w' g (t : Int) tt (late d (t : Int))) ∧ Aside0 (Below w.heap.size w w'))
      case atStart => exact ⟨0, _, rfl, by rw [e0], ⟨by omega, by omega⟩, CL, B3⟩
      case round =>
        clear CL B3 e0
        obtain ⟨t, P, rfl, rfl, HI, C4, B4⟩ := hrel
        generalize wr = w4 at C4 B4 ⊢
        have HLL := Aside0.mk (show (late d (t : Int)).length ≤ 100 from Nat.le_trans (List.length_filter_le _ _) HDL2.out)
        by_cases hi : t < 50
        rotate_left
        · have d1 : decide ((t : Int) + 1 ≤ 50) = false := decide_eq_false (by omega)
          have d2 : decide ((t : Int) < 50) = false := decide_eq_false (by omega)
          have e8 : late d (t : Int) = [] := List.filter_eq_nil_iff.2 (fun x hx => by have := HSL.out x hx; simp; omega)
          rw [e8] at C4 ⊢
          clear hi e8
          go_wp2_with fail
          refine (clen_calls C4.out).mono ?_
          rintro x w9 ⟨rfl, hb⟩
          have B9 := Aside0.mk (below_step B4.out hb)
          clear hb
          go_wp2_with fail
          go_ret
          exact ⟨rfl, B9.out⟩
        have d1 : decide ((t : Int) + 1 ≤ 50) = true := decide_eq_true (by omega)
        have NK := Aside0.mk (nkO hi HI.out)
        have b4_ : wrap64 ((t : Int) + 1 + 1) = ((t + 1 : Nat) : Int) + 1 := by unfold wrap64; omega
        clear hi
        go_wp2_with fail
        refine (tick_calls C4.out (fun x hx => by have := (List.mem_filter.1 hx).2; simpa using this) (by have := HI.out; omega) (by have := HT.out; have := H100.out; omega)).mono ?_
        rintro x w5 ⟨⟨v5, rfl, hR⟩, hC, hb, hk⟩
        have hL := D3.out.told (t : Int)
        have hsp := len_split (late d (t : Int)) ((t : Int) + 1)
        rw [late_late d (by omega)] at hC hsp
        obtain ⟨K, hK⟩ : ∃ K, K = (idx l0 l0.length).filter (fun k => decide (l0.getD k 0 = (t : Int) + 1)) := ⟨_, rfl⟩
        have hlen : (soon (late d (t : Int)) ((t : Int) + 1)).length = K.length := by
          have := congrArg List.length hL
          rw [List.length_map, List.length_map, ← hK] at this
          exact this
        rw [← hK] at hL
        rw [hL] at hR
        have HKS := Aside0.mk (show K.Pairwise (· < ·) by rw [hK]; exact idx_sorted _ _ _)
        have HKM := Aside0.mk (show ∀ k ∈ K, k < l0.length ∧ l0.getD k 0 = (t : Int) + 1 from fun k hk => by
          rw [hK] at hk
          have h1 := List.mem_filter.1 hk
          exact ⟨(idx_mem h1.1).1, by simpa using h1.2⟩)
        have R5 := Aside0.mk hR; have C5 := Aside0.mk hC; have B5 := Aside0.mk (B4.out.trans (hb.mono HN.out))
        have HSP := Aside0.mk (show K.length + (late d ((t : Int) + 1)).length = (late d (t : Int)).length by rw [← hlen]; exact hsp)
        have LM := Aside0.mk (show (K.map nmO).length = K.length by simp)
        obtain ⟨A5, c5, e5⟩ := Kd.R_slice hR
        subst e5
        rw [LM.out]
        clear hR hC hb hk hL hsp hK hlen C4 B4
        go_wp2_with fail
        go_loopg [4, 8, 49] (K.length + 1) (fun kq v4 v8 v49 w' => ∃ (j : Nat), v49 = .int .i64 (j : Int) ∧ v8 = .int .i64 (lst K j) ∧ v4 = .int .i64 ((((late d (t : Int)).length - j : Nat) : Nat) : Int) ∧ Aside0 (j ≤ K.length ∧ j + kq = K.length + 1) ∧ Aside0 (Below w5.heap.size w5 w'))
        case atStart => exact ⟨0, rfl, rfl, rfl, ⟨by omega, by omega⟩, ⟨Below.refl _ _⟩⟩
        case round =>
          obtain ⟨j, rfl, rfl, rfl, HJ, BJ⟩ := hrel
          have CJ := Aside0.mk (C5.out.below BJ.out); have RJ := Aside0.mk (Kd.R_below R5.out BJ.out); have BE := Aside0.mk (below_step B5.out BJ.out)
          generalize wr = wj at BJ CJ RJ BE ⊢
          by_cases hj : j < K.length
          rotate_left
          · have f1 : decide ((j : Int) < (K.length : Int)) = false := decide_eq_false (by omega)
            have f2 : decide (j < K.length) = false := decide_eq_false hj
            have f3 : (j < K.length) = False := eq_false hj
            have e10 : (late d (t : Int)).length - j = (late d ((t : Int) + 1)).length := by have := HSP.out; have := HJ.out; omega
            rw [e10]
            clear hj e10 d1
            go_wp2_with fail
            go_roundg (51 - (t + 1))
            case measure => have := NK.out; have := HI.out; omega
            case rel => exact ⟨t + 1, _, by (first | rw [b4_] | rfl), rfl, ⟨by have := NK.out; omega⟩, CJ, BE⟩
          have f1 : decide ((j : Int) < (K.length : Int)) = true := decide_eq_true (by omega)
          have f2 : decide (j < K.length) = true := decide_eq_true hj
          have f3 : (j < K.length) = True := eq_true hj
          have f4 : (0 : Int) ≤ (j : Int) := by omega
          have f5 : (j : Int) < (K.length : Int) := by omega
          have f6 := eq_true f4; have f7 := eq_true f5; have f8 : decide ((0 : Int) ≤ (j : Int)) = true := decide_eq_true f4
          have NJ := Aside0.mk (nkO hj HJ.out)
          obtain ⟨ad, ce, ee, y0⟩ := str_at RJ.out (i := j) (by rw [LM.out]; exact hj)
          injection ee with ee _ ec
          subst ee
          obtain ⟨k, hk⟩ : ∃ k, k = K.getD j 0 := ⟨_, rfl⟩
          have hkm : k ∈ K := by rw [hk, List.getD_eq_getElem?_getD, List.getElem?_eq_getElem hj]; exact List.getElem_mem hj
          have y1 : wj.cell? (ad.add j) = some (.string (nmO k)) := by rw [y0, hk]; simp [List.getD_eq_getElem?_getD, hj]
          have HKK := Aside0.mk (HKM.out k hkm)
          have HLS := Aside0.mk (show lst K j < (k : Int) by rw [hk]; exact lst_lt HKS.out hj)
          have HLN := Aside0.mk (show lst K (j + 1) = (k : Int) by rw [hk]; rfl)
          have b3_ : wrap64 ((j : Int) + 1) = ((j + 1 : Nat) : Int) := by have := HJ.out; have := HSP.out; have := HLL.out; unfold wrap64; omega
          obtain ⟨ld, eld, z0⟩ := Kd.at_int (Kd.C_below HR.out BE.out) (k : Int) (by omega) (by have := HKK.out.1; omega)
          subst eld
          have z1 : wj.cell? (ld.add k) = some (.int .i64 ((t : Int) + 1)) := by rw [← HKK.out.2]; simpa [rd] using z0
          have k0 : ((0 : Int) ≤ (k : Int)) = True := eq_true (by omega); have k1 : ((k : Int) < (l0.length : Int)) = True := eq_true (by have := HKK.out.1; omega)
          have k2 : decide ((k : Int) ≤ lst K j) = false := decide_eq_false (by have := HLS.out; omega)
          have b6_ : wrap64 ((((late d (t : Int)).length - j : Nat) : Int) - 1) = (((late d (t : Int)).length - (j + 1) : Nat) : Int) := by have := HLL.out; have := HSP.out; have := NJ.out.1.1; unfold wrap64; omega
          have MEA := Aside0.mk (show K.length - j < gk ∧ Aside0 (j + 1 ≤ K.length ∧ j + 1 + (K.length - j) = K.length + 1) from ⟨by have := NJ.out; have := HJ.out; omega, ⟨by have := NJ.out; have := HJ.out; omega⟩⟩)
          have hz : 0 < (nmO k).size := by rw [nmO_size]; decide
          have b5_ : wrap64 ((((nmO k)[0]'hz).toNat : Nat) : Int) = (k : Int) := nmO_at (Nat.lt_of_lt_of_le HKK.out.1 (Nat.le_trans H100.out (by decide))) hz
          clear hj f4 f5 hk hkm y0 ec z0
          go_wp2_with fail
          go_roundg (K.length - j)
          case measure => exact MEA.out.1
          case rel => exact ⟨j + 1, by (first | rw [b3_] | rfl), by rw [HLN.out], by (first | rw [b6_] | rfl), MEA.out.2, BJ⟩
    have d1 : decide ((i : Int) < (l0.length : Int)) = true := decide_eq_true (by omega)
    have d2 : decide (i < l0.length) = true := decide_eq_true hi
    have d3 : (i < l0.length) = True := eq_true hi
    have hi0 : (0 : Int) ≤ (i : Int) := by omega
    have hi1 : (i : Int) < (l0.length : Int) := by omega
    obtain ⟨ad, ea, x0⟩ := Kd.at_int (Kd.C_below HR.out B3.out) (i : Int) hi0 hi1
    subst ea
    have x1 : w3.cell? (ad.add i) = some (.int .i64 (l0.getD i 0)) := by simpa [rd] using x0
    have X1 := Aside0.mk x1
    have q1 := eq_true hi0; have q2 := eq_true hi1; have q3 : decide ((0 : Int) ≤ (i : Int)) = true := decide_eq_true hi0
    have NK := Aside0.mk (nkO hi HI.out)
    have HII := Aside0.mk hi
    have b2_ : wrap64 ((i : Int) + 1) = ((i + 1 : Nat) : Int) := by have := H100.out; unfold wrap64; omega
    obtain ⟨v, hv⟩ : ∃ v, v = l0.getD i 0 := ⟨_, rfl⟩
    rw [← hv] at x1
    have HV := Aside0.mk hv
    clear hi hi0 hi1 x0 X1 hv
    by_cases h1 : 1 ≤ v
    rotate_left
    · have t1 : decide (v ≥ 1) = false := decide_eq_false h1
      have t2 : decide (1 ≤ v) = false := decide_eq_false h1
      have D5 := Aside0.mk (D3.out.skip (by rw [← HV.out]; omega))
      clear h1
      go_wp2_with fail
      go_roundg (gk - 1)
      case measure => have := NK.out.2; omega
      case rel => exact ⟨i + 1, d, by (first | rw [b2_] | rfl), rfl, ⟨NK.out.1⟩, ⟨tt, HT.out.1, by have := HT.out.2; omega, C3.out⟩, D5, B3⟩
    have t1 : decide (v ≥ 1) = true := decide_eq_true h1
    have t2 : decide (1 ≤ v) = true := decide_eq_true h1
    by_cases h5 : v ≤ 50
    rotate_left
    · have t3 : decide (v ≤ 50) = false := decide_eq_false h5
      have D5 := Aside0.mk (D3.out.skip (by rw [← HV.out]; omega))
      clear h1 h5
      go_wp2_with fail
      go_roundg (gk - 1)
      case measure => have := NK.out.2; omega
      case rel => exact ⟨i + 1, d, by (first | rw [b2_] | rfl), rfl, ⟨NK.out.1⟩, ⟨tt, HT.out.1, by have := HT.out.2; omega, C3.out⟩, D5, B3⟩
    have t3 : decide (v ≤ 50) = true := decide_eq_true h5
    have HV5 := Aside0.mk (show 1 ≤ v ∧ v ≤ 50 from ⟨h1, h5⟩)
    have b3_ : wrap64 ((d.length : Int) + 1) = ((d.length + 1 : Nat) : Int) := by have := HDL.out; have := H100.out; have := HI.out.1; unfold wrap64; omega
    clear h1 h5
    go_wp2_with (first | ((with_reducible refine gate_dst (N := 34) rfl ?_); refine Kd.R_lit (Kd.int .u8) _ 5 ?hg (N := 34) ?hd (xs := ([(i : Int) % 256, 120] : List Int)) (inner := [.int .u8 ((i : Int) % 256), .int .u8 120]) (ok := fun _ => True) (okp := fun _ => True) ?hr ?hp (fun _ hk => hk) trivial (Below.refl _ _) (Nat.le_refl _) (by simp) ?_; (case hd => rfl); (case hg => rfl); (case hr => first | (go_simp; done) | (go_simp; rfl)); (case hp => exact (Reps.one (show Kd.M (Kd.int .u8) _ _ _ ((i : Int) % 256) [.int .u8 ((i : Int) % 256)] from rfl) (Reps.one (show Kd.M (Kd.int .u8) _ _ _ (120 : Int) [.int .u8 120] from rfl) (Reps.none _ _)))); intro vL w4 ho10 hb hg_ hnew_; have hcv := own_string (P := Try.prog) Try.underlying28 Try.underlying5 Try.underlying9 (Kd.own_of_R ho10); obtain ⟨AN, cN, eN, hcN, hrN⟩ := Kd.R_reads ho10; subst eN; have hcw : (convert 28 9 (.slice AN 2 cN)).run Try.prog w4 = .ok (.string (nmO i)) w4 := hcv; clear hcv; have HS4 := Aside0.mk (Nat.le_trans C3.out.size1 hb.size); have C4 := Aside0.mk (C3.out.below hb); have B4 := Aside0.mk (below_step B3.out hb); clear ho10 hb hg_ hnew_ hcN hrN))
    refine (set_new (s := nmO i) (later := v) C4.out (by have := HV5.out; omega) (by have := HT.out; have := H100.out; have := HI.out.1; omega) (szO i) (D3.out.ne (by have := H100.out; have := HI.out.1; omega)) (by have := HDL.out; have := H100.out; have := HI.out.1; omega)).mono ?_
    rintro x w5 ⟨rfl, ⟨b, hC⟩, hb, hk⟩
    have C5 := Aside0.mk (hC.mono (P' := fun k => w1.heap.size ≤ k) (fun k q => q.elim id (fun q => Nat.le_trans HS4.out q))); have B5 := Aside0.mk (B4.out.trans (hb.mono HN.out))
    have D5 := Aside0.mk (show DO l0 (i + 1) (d ++ [(⟨nmO i, 0 + v, tt + 1, b⟩ : Du)]) from by rw [HV.out]; exact D3.out.put (by rw [← HV.out]; exact HV5.out) _ _)
    clear hC hb hk C4 B4 hcw
    go_wp2_with fail
    go_roundg (gk - 1)
    case measure => have := NK.out.2; omega
    case rel => exact ⟨i + 1, _, by (first | rw [b2_] | rfl), by rw [List.length_append, List.length_singleton]; (first | rw [b3_] | rfl), ⟨NK.out.1⟩, ⟨tt + 1, by have := HT.out; omega, by have := HT.out; omega, C5.out⟩, D5, B5⟩
end Go.Proofs.Ytdodaepdghlolaa.Pure
