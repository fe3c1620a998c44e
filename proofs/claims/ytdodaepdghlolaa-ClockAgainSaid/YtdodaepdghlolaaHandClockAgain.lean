/-
  ClockAgain, walked by hand: a name that is set anew is due by the last time it was set, once; one that is dropped isn't told.
-/
import Derived.Test.YtdodaepdghlolaaHTicks
import Derived.Test.YtdodaepdghlolaaRowClockAgain
namespace Go.Proofs.Ytdodaepdghlolaa.Pure.Clk
open Go.RowKit Go.Proofs.Ytdodaepdghlolaa.M Go.Proofs.YtdodaepdghlolaaW.PrintWords Go.Proofs.YtdodaepdghlolaaW.PrintLast Go.Proofs.YtdodaepdghlolaaW.PrintMore Go.Proofs.Ytdodaepdghlolaa.Pure
set_option linter.unusedVariables false
set_option linter.unusedSimpArgs false

def sX : ByteArray := ⟨#[120]⟩
def sY : ByteArray := ⟨#[121]⟩
theorem ne_X {s : ByteArray} (h : s ≠ sX) : (s.toList == [120]) = false := beq_eq_false_iff_ne.mpr (fun e => h (by
  rw [ByteArray.toList_eq] at e
  cases s
  show (_ : ByteArray) = ⟨#[120]⟩
  simp only [ByteArray.mk.injEq]
  exact Array.toList_inj.mp e))
theorem Ck.size {N : Nat} {P : Nat → Prop} {w : World} {g : Nat} {now turns : Int} {d : List Du} (h : Ck N P w g now turns d) : N ≤ w.heap.size := by
  obtain ⟨m, q, A, c, D, h⟩ := h
  exact h.isq.size
theorem nkC {i n gk : Nat} (hi : i < n) (h : i ≤ n ∧ i + gk = n + 1) : (i + 1 ≤ n ∧ i + 1 + (gk - 1) = n + 1) ∧ 0 < gk := by omega
theorem count_take {L : List ByteArray} {j : Nat} (h : j < L.length) (s : ByteArray) : cnt (L.take (j + 1)) s = cnt (L.take j) s + (if L.getD j ⟨#[]⟩ = s then 1 else 0) := by
  have e : L.getD j ⟨#[]⟩ = L[j] := by simp [List.getD_eq_getElem?_getD, h]
  unfold cnt
  rw [List.take_succ_eq_append_getElem h, List.countP_append, List.countP_singleton, e]
  simp
theorem told_le (d : List Du) (s : ByteArray) (t : Int) : told d s t ≤ d.length := by
  unfold told soon cnt
  exact Nat.le_trans List.countP_le_length (by rw [List.length_map]; exact List.length_filter_le _ _)
theorem told_late {d : List Du} {s : ByteArray} {t : Int} (h : late d t = []) : told d s t = cnt (d.map Du.nm) s := by
  unfold told
  have : soon d t = d := List.filter_eq_self.2 (fun x hx => by
    by_cases e : t < x.at_
    · have : x ∈ late d t := List.mem_filter.2 ⟨hx, by simpa using e⟩
      rw [h] at this; cases this
    · simp; omega)
  rw [this]
end Go.Proofs.Ytdodaepdghlolaa.Pure.Clk
namespace Go.Proofs.Ytdodaepdghlolaa.Pure
open Go.RowKit Go.Proofs.Ytdodaepdghlolaa.M Go.Proofs.YtdodaepdghlolaaW.PrintWords Go.Proofs.YtdodaepdghlolaaW.PrintLast Go.Proofs.YtdodaepdghlolaaW.PrintMore Go.Proofs.Ytdodaepdghlolaa.Pure
set_option linter.unusedVariables false
set_option linter.unusedSimpArgs false
open Clk
set_option maxHeartbeats 16000000 in
set_option maxRecDepth 100000 in
theorem ClockAgain_hand (a b : Int) (drop : Bool) (w : World) (g0 : (Lit.int .i64 a).wf = true) (g1 : (Lit.int .i64 b).wf = true) :
    Calls Try.prog 5 #[.int .i64 a, .int .i64 b, .bool drop] w fun e w' => e = .returned (.bool true) ∧ Below w.heap.size w w' := by
  clear g0 g1
  go_enter Try.func5, Try.ntmps5
  go_wp2_with fail
  refine (ticks_calls w).mono ?_
  rintro x w1 ⟨rfl, hb⟩
  have B1 := Aside0.mk hb
  clear hb
  by_cases hu : a < 1
  · have u0 : decide (a < 1) = true := decide_eq_true (by omega)
    clear hu
    go_wp2_with fail
    go_ret
    exact ⟨rfl, B1.out⟩
  
  have ua : decide (a < 1) = false := decide_eq_false hu
  have HA := Aside0.mk hu
  clear hu
  by_cases hu : a > 30
  · have u0 : decide (a > 30) = true := decide_eq_true (by omega)
    have u1 : decide (30 < a) = true := decide_eq_true (by omega)
    clear hu
    go_wp2_with fail
    go_ret
    exact ⟨rfl, B1.out⟩
  
  have uc : decide (a > 30) = false := decide_eq_false hu
  have ud : decide (30 < a) = false := decide_eq_false (by omega)
  have HA2 := Aside0.mk hu
  clear hu
  by_cases hu : b < 1
  · have u0 : decide (b < 1) = true := decide_eq_true (by omega)
    clear hu
    go_wp2_with fail
    go_ret
    exact ⟨rfl, B1.out⟩
  
  have ue : decide (b < 1) = false := decide_eq_false hu
  have HB := Aside0.mk hu
  clear hu
  by_cases hu : b > 30
  · have u0 : decide (b > 30) = true := decide_eq_true (by omega)
    have u1 : decide (30 < b) = true := decide_eq_true (by omega)
    clear hu
    go_wp2_with fail
    go_ret
    exact ⟨rfl, B1.out⟩
  
  have uf : decide (b > 30) = false := decide_eq_false hu
  have ug : decide (30 < b) = false := decide_eq_false (by omega)
  have HB2 := Aside0.mk hu
  clear hu
  have HAB := Aside0.mk (show 1 ≤ a ∧ a ≤ 30 ∧ 1 ≤ b ∧ b ≤ 30 by have := HA.out; have := HA2.out; have := HB.out; have := HB2.out; omega)
  clear HA HA2 HB HB2
  go_wp2_with fail
  refine (new_calls w1).mono ?_
  rintro x w2 ⟨⟨g, rfl, hC⟩, hb⟩
  have C2 := Aside0.mk hC; have B2 := Aside0.mk (below_step B1.out hb)
  have HN := Aside0.mk B1.out.size; have HS2 := Aside0.mk hb.size
  clear hC hb ua uc ud ue uf ug
  go_wp2_with fail
  refine (set_ok (s := sX) (later := a) C2.out (by have := HAB.out; omega) (by decide) (str_sz1 _) (Or.inr (by decide))).mono ?_
  rintro x w3 ⟨rfl, ⟨b1, hC⟩, hb, hk⟩
  have C3 := Aside0.mk (hC.mono (P' := fun k => w1.heap.size ≤ k) (fun k q => q.elim id (fun q => Nat.le_trans HS2.out q))); have B3 := Aside0.mk (B2.out.trans (hb.mono HN.out)); have HS3 := Aside0.mk (Nat.le_trans HS2.out hb.size)
  clear hC hb hk C2 B2
  go_wp2_with fail
  refine (tick_calls C3.out (by intro x hx; simp [but] at hx; rcases hx with rfl; show (0 : Int) < a; have := HAB.out; omega) (by decide) (by decide)).mono ?_
  rintro x w4 ⟨⟨v4, rfl, hR⟩, hC, hb, hk⟩
  have C4 := Aside0.mk hC; have B4 := Aside0.mk (B3.out.trans (hb.mono HN.out))
  have HS4 := Aside0.mk (Nat.le_trans HS3.out hb.size)
  clear hR hC hb hk C3 B3
  have HD4 := Aside0.mk (show ∀ x ∈ late (but [] sX ++ [(⟨sX, 0 + a, 0 + 1, b1⟩ : Du)]) (0 + 1), x.nm = sX from fun x hx => by have := (List.mem_filter.1 hx).1; simp [but] at this; rw [this])
  have HL4 := Aside0.mk (show (late (but [] sX ++ [(⟨sX, 0 + a, 0 + 1, b1⟩ : Du)]) (0 + 1)).length < 4096 from Nat.lt_of_le_of_lt (List.length_filter_le _ _) (by show 1 < 4096; decide))
  generalize late (but [] sX ++ [(⟨sX, 0 + a, 0 + 1, b1⟩ : Du)]) (0 + 1) = d4 at C4 HD4 HL4
  go_wp2_with fail
  refine (set_ok (s := sX) (later := b) C4.out (by have := HAB.out; omega) (by decide) (str_sz1 _) (Or.inr HL4.out)).mono ?_
  rintro x w5 ⟨rfl, ⟨b5, hC⟩, hb, hk⟩
  rw [but_all HD4.out] at hC
  have C5 := Aside0.mk (hC.mono (P' := fun k => w1.heap.size ≤ k) (fun k q => q.elim (fun q => q.1) (fun q => Nat.le_trans HS4.out q))); have B5 := Aside0.mk (B4.out.trans (hb.mono HN.out)); have HS5 := Aside0.mk (Nat.le_trans HS4.out hb.size)
  clear hC hb hk C4 B4 HD4 HL4
  go_wp2_with fail
  refine (set_ok (s := sY) (later := 3) C5.out (by decide) (by decide) (str_sz1 _) (Or.inr (by show 1 < 4096; decide))).mono ?_
  rintro x w6 ⟨rfl, ⟨b6, hC⟩, hb, hk⟩
  have e6 : but ([] ++ [(⟨sX, 0 + 1 + b, 0 + 1 + 1, b5⟩ : Du)]) sY ++ [(⟨sY, 0 + 1 + 3, 0 + 1 + 1 + 1, b6⟩ : Du)] = [⟨sX, 1 + b, 2, b5⟩, ⟨sY, 4, 3, b6⟩] := by
    rw [but_self (fun x hx => by simp at hx; subst hx; show sX ≠ sY; decide)]
    show [(⟨sX, 0 + 1 + b, 0 + 1 + 1, b5⟩ : Du), ⟨sY, 0 + 1 + 3, 0 + 1 + 1 + 1, b6⟩] = _
    simp
  rw [e6] at hC
  have C6 := Aside0.mk (hC.mono (P' := fun k => w1.heap.size ≤ k) (fun k q => q.elim id (fun q => Nat.le_trans HS5.out q))); have B6 := Aside0.mk (B5.out.trans (hb.mono HN.out)); have HS6 := Aside0.mk (Nat.le_trans HS5.out hb.size)
  clear hC hb hk C5 B5 e6 HS4 HS5
  rw [show (0 : Int) + 1 = 1 from rfl, show (1 : Int) + 1 + 1 = 3 from rfl] at C6
  have hlen0 : True := trivial
  cases drop
  · obtain ⟨D0, hD⟩ : ∃ D0, D0 = [(⟨sX, 1 + b, 2, b5⟩ : Du), ⟨sY, 4, 3, b6⟩] := ⟨_, rfl⟩
    have hD0 : ∀ x ∈ D0, 1 < x.at_ ∧ x.at_ ≤ 31 ∧ (x.nm = sX → x.at_ = 1 + b) := fun x hx => by
      have := HAB.out
      rw [hD] at hx
      simp at hx
      rcases hx with rfl | rfl
      · exact ⟨by show 1 < 1 + b; omega, by show 1 + b ≤ 31; omega, fun _ => rfl⟩
      · exact ⟨by show (1 : Int) < 4; decide, by show (4 : Int) ≤ 31; decide, fun h => absurd h (by show sY ≠ sX; decide)⟩
    have hcn : cnt (D0.map Du.nm) sX = 1 := by rw [hD]; rfl
    have hlen := Aside0.mk (show D0.length ≤ 2 by rw [hD]; show 2 ≤ 2; decide)
    rw [← hD] at C6
    have C7 := C6; have B7 := Aside0.mk B6.out
    clear hD C6 B6 hlen0
    have HD := Aside0.mk (show ∀ x ∈ D0, 1 < x.at_ ∧ x.at_ ≤ 31 ∧ (x.nm = sX → x.at_ = 1 + b) from hD0); have HCN := Aside0.mk hcn
    clear hD0 hcn
    have T7 := Aside0.mk (show told D0 sX 1 = 0 from by
      unfold told
      rw [(soon_nil (fun x hx => (HD.out x hx).1)).1]; rfl)
    have L7 := Aside0.mk (show late D0 1 = D0 from (soon_nil (fun x hx => (HD.out x hx).1)).2)
    rw [← L7.out] at C7
    clear L7
    go_wp2_with fail
    go_loopg [8, 48] 36 (fun kq v8 v48 w' => ∃ (i : Nat) (P : Nat → Prop), v48 = .int .i64 (i : Int) ∧ v8 = .int .i64 ((told D0 sX (1 + (i : Int)) : Nat) : Int) ∧ Aside0 (i ≤ 35 ∧ i + kq = 35 + 1) ∧ Aside0 (Ck w1.heap.size P w' g (1 + (i : Int)) 3 (late D0 (1 + (i : Int)))) ∧ Aside0 (Below w.heap.size w w'))
    case atStart => exact ⟨0, _, rfl, by rw [show (1 : Int) + ((0 : Nat) : Int) = 1 from rfl, T7.out]; rfl, ⟨by omega, by omega⟩, C7, B7⟩
    case round =>
      clear T7 C7 B7
      obtain ⟨i, P, rfl, rfl, HI, C8, B8⟩ := hrel
      generalize wr = w8 at C8 B8 ⊢
      have HTL := Aside0.mk (told_le D0 sX (1 + (i : Int)))
      by_cases hi : i < 35
      rotate_left
      · have d1 : decide ((i : Int) < 35) = false := decide_eq_false (by omega)
        have d2 : decide (i < 35) = false := decide_eq_false hi
        have d3 : (i < 35) = False := eq_false hi
        have e8 : late D0 (1 + (i : Int)) = [] := List.filter_eq_nil_iff.2 (fun x hx => by have := HD.out x hx; simp; omega)
        have e9 := told_late (s := sX) e8
        rw [e8] at C8
        rw [e9, HCN.out]
        clear hi e8 e9 HTL
        go_wp2_with fail
        refine (clen_calls C8.out).mono ?_
        rintro x w9 ⟨rfl, hb⟩
        have C9 := Aside0.mk (C8.out.below hb); have B9 := Aside0.mk (below_step B8.out hb)
        clear hb C8 B8
        go_wp2_with fail
        refine (drop_any (s := sX) C9.out (by decide) (str_sz1 _) C9.out.size).mono ?_
        rintro x w10 ⟨rfl, hC, hb, hk⟩
        have B10 := Aside0.mk (B9.out.trans (hb.mono HN.out))
        clear hC hb hk
        rw [show (([] : List Du).any (fun x => decide (x.nm = sX))) = false from rfl]
        go_wp2_with fail
        go_ret
        exact ⟨rfl, B10.out⟩
      have d1 : decide ((i : Int) < 35) = true := decide_eq_true (by omega)
      have d2 : decide (i < 35) = true := decide_eq_true hi
      have d3 : (i < 35) = True := eq_true hi
      have NK := Aside0.mk (nkC hi HI.out)
      have b1_ : wrap64 ((i : Int) + 1) = ((i + 1 : Nat) : Int) := by unfold wrap64; omega
      have HIT := Aside0.mk hi
      clear hi
      go_wp2_with fail
      refine (tick_calls C8.out (fun x hx => by have := (List.mem_filter.1 hx).2; simpa using this) (by have := HIT.out; omega) (by decide)).mono ?_
      rintro x w9 ⟨⟨v9, rfl, hR⟩, hC, hb, hk⟩
      have ts := told_step D0 sX (1 + (i : Int))
      have hall : ∀ s ∈ (soon (late D0 (1 + (i : Int))) (1 + (i : Int) + 1)).map Du.nm, s = sX → 1 + (i : Int) + 1 = 1 + b := fun s hs e => by
        obtain ⟨x, hx, rfl⟩ := List.mem_map.1 hs
        rw [soon_late] at hx
        have h1 := List.mem_filter.1 hx
        have h2 := (HD.out x h1.1).2.2 e
        have h3 := h1.2
        simp at h3
        omega
      have hln : ((soon (late D0 (1 + (i : Int))) (1 + (i : Int) + 1)).map Du.nm).length ≤ 2 := by
        rw [List.length_map]
        exact Nat.le_trans (List.length_filter_le _ _) (Nat.le_trans (List.length_filter_le _ _) hlen.out)
      rw [late_late D0 (by omega)] at hC
      obtain ⟨L, hL⟩ : ∃ L, L = (soon (late D0 (1 + (i : Int))) (1 + (i : Int) + 1)).map Du.nm := ⟨_, rfl⟩
      rw [← hL] at hR ts hall hln
      have R9 := Aside0.mk hR; have C9 := Aside0.mk hC; have B9 := Aside0.mk (B8.out.trans (hb.mono HN.out)); have TS := Aside0.mk ts; have HAL := Aside0.mk hall; have HLN := Aside0.mk hln
      obtain ⟨A9, c9, e9⟩ := Kd.R_slice hR
      subst e9
      have b2_ : (1 : Int) + (i : Int) + 1 = 1 + ((i + 1 : Nat) : Int) := by omega
      rw [b2_] at C9 TS HAL
      clear hR hC hb hk ts hall hln hL C8 B8 b2_
      go_wp2_with fail
      go_loopg [8, 53] (L.length + 1) (fun kq v8 v53 w' => ∃ (j : Nat), v53 = .int .i64 (j : Int) ∧ v8 = .int .i64 ((told D0 sX (1 + (i : Int)) + cnt (L.take j) sX : Nat) : Int) ∧ Aside0 (j ≤ L.length ∧ j + kq = L.length + 1) ∧ Aside0 (Below w9.heap.size w9 w'))
      case atStart => exact ⟨0, rfl, rfl, ⟨by omega, by omega⟩, ⟨Below.refl _ _⟩⟩
      case round =>
        obtain ⟨j, rfl, rfl, HJ, BJ⟩ := hrel
        have CJ := Aside0.mk (C9.out.below BJ.out); have RJ := Aside0.mk (Kd.R_below R9.out BJ.out)
        generalize wr = wj at BJ CJ RJ ⊢
        by_cases hj : j < L.length
        rotate_left
        · have f1 : decide ((j : Int) < (L.length : Int)) = false := decide_eq_false (by omega)
          have f2 : decide (j < L.length) = false := decide_eq_false hj
          have f3 : (j < L.length) = False := eq_false hj
          have BE := Aside0.mk (below_step B9.out BJ.out)
          have e10 : told D0 sX (1 + (i : Int)) + cnt (L.take j) sX = told D0 sX (1 + ((i + 1 : Nat) : Int)) := by rw [List.take_of_length_le (by omega), ← TS.out]
          rw [e10]
          clear hj e10 d1 d2 d3
          go_wp2_with fail
          go_roundg (36 - (i + 1))
          case measure => have := NK.out; have := HI.out; omega
          case rel => exact ⟨i + 1, _, by (first | rw [b1_] | rfl), rfl, ⟨by have := NK.out; omega⟩, CJ, BE⟩
        have f1 : decide ((j : Int) < (L.length : Int)) = true := decide_eq_true (by omega)
        have f2 : decide (j < L.length) = true := decide_eq_true hj
        have f3 : (j < L.length) = True := eq_true hj
        have f4 : (0 : Int) ≤ (j : Int) := by omega
        have f5 : (j : Int) < (L.length : Int) := by omega
        have f6 := eq_true f4; have f7 := eq_true f5; have f8 : decide ((0 : Int) ≤ (j : Int)) = true := decide_eq_true f4
        have NJ := Aside0.mk (nkC hj HJ.out)
        obtain ⟨ad, ce, ee, y0⟩ := str_at RJ.out hj
        injection ee with ee _ ec
        subst ee
        have CT := Aside0.mk (count_take hj sX)
        have HM := Aside0.mk (HAL.out (L.getD j ⟨#[]⟩) (by rw [List.getD_eq_getElem?_getD, List.getElem?_eq_getElem hj]; exact List.getElem_mem hj))
        have b3_ : wrap64 ((j : Int) + 1) = ((j + 1 : Nat) : Int) := by have := HLN.out; unfold wrap64; omega
        have HCL := Aside0.mk (show cnt (L.take j) sX ≤ 2 from Nat.le_trans List.countP_le_length (by rw [List.length_take]; have := HLN.out; omega))
        obtain ⟨s, hs⟩ : ∃ s, s = L.getD j ⟨#[]⟩ := ⟨_, rfl⟩
        rw [← hs] at y0 CT HM
        clear hj hs ec
        by_cases hx : s = sX
        · subst hx
          rw [if_pos rfl] at CT
          have hnow := HM.out rfl
          have HNW := Aside0.mk hnow
          have b4_ : wrap64 (((told D0 sX (1 + (i : Int)) : Nat) : Int) + ((cnt (L.take j) sX : Nat) : Int) + 1) = ((told D0 sX (1 + (i : Int)) + cnt (L.take (j + 1)) sX : Nat) : Int) := by have := CT.out; have := HTL.out; have := hlen.out; have := HCL.out; unfold wrap64; omega
          clear hnow
          unfold sX at y0
          go_wp2_with fail
          refine (now_calls CJ.out).mono ?_
          rintro x wk ⟨rfl, hb⟩
          have BK := Aside0.mk (below_step BJ.out hb)
          have e5_ : wrap64 (1 + b) = 1 + b := by have := HAB.out; unfold wrap64; omega
          rw [HNW.out]
          clear hb CJ RJ BJ y0
          go_wp2_with fail
          go_roundg (L.length - j)
          case measure => have := NJ.out; have := HJ.out; omega
          case rel => exact ⟨j + 1, by (first | rw [b3_] | rfl), by (first | rw [b4_] | rfl), ⟨by have := NJ.out; have := HJ.out; omega⟩, BK⟩
        have hxe := ne_X hx
        have CT2 := Aside0.mk (show cnt (L.take (j + 1)) sX = cnt (L.take j) sX from by have := CT.out; rw [if_neg hx] at this; omega)
        clear hx
        go_wp2_with fail
        go_roundg (L.length - j)
        case measure => have := NJ.out; have := HJ.out; omega
        case rel => exact ⟨j + 1, by (first | rw [b3_] | rfl), by rw [CT2.out]; rfl, ⟨by have := NJ.out; have := HJ.out; omega⟩, BJ⟩
  · obtain ⟨D0, hD⟩ : ∃ D0, D0 = [(⟨sY, 4, 3, b6⟩ : Du)] := ⟨_, rfl⟩
    have hD0 : ∀ x ∈ D0, 1 < x.at_ ∧ x.at_ ≤ 31 ∧ (x.nm = sX → x.at_ = 1 + b) := fun x hx => by
      rw [hD] at hx
      simp at hx
      subst hx
      exact ⟨by show (1 : Int) < 4; decide, by show (4 : Int) ≤ 31; decide, fun h => absurd h (by show sY ≠ sX; decide)⟩
    have hcn : cnt (D0.map Du.nm) sX = 0 := by rw [hD]; rfl
    have hlen := Aside0.mk (show D0.length ≤ 2 by rw [hD]; show 1 ≤ 2; decide)
    go_wp2_with fail
    refine (drop_any (s := sX) C6.out (by decide) (str_sz1 _) C6.out.size).mono ?_
    rintro x w7 ⟨rfl, hC, hb, hk⟩
    rw [show but [(⟨sX, 1 + b, 2, b5⟩ : Du), ⟨sY, 4, 3, b6⟩] sX = [⟨sY, 4, 3, b6⟩] from rfl, ← hD] at hC
    have C7 := Aside0.mk hC; have B7 := Aside0.mk (B6.out.trans (hb.mono HN.out))
    rw [show ([(⟨sX, 1 + b, 2, b5⟩ : Du), ⟨sY, 4, 3, b6⟩].any (fun x => decide (x.nm = sX))) = true from rfl]
    clear hC hb hk hD C6 B6 hlen0
    have HD := Aside0.mk (show ∀ x ∈ D0, 1 < x.at_ ∧ x.at_ ≤ 31 ∧ (x.nm = sX → x.at_ = 1 + b) from hD0); have HCN := Aside0.mk hcn
    clear hD0 hcn
    have T7 := Aside0.mk (show told D0 sX 1 = 0 from by
      unfold told
      rw [(soon_nil (fun x hx => (HD.out x hx).1)).1]; rfl)
    have L7 := Aside0.mk (show late D0 1 = D0 from (soon_nil (fun x hx => (HD.out x hx).1)).2)
    rw [← L7.out] at C7
    clear L7
    go_wp2_with fail
    go_loopg [8, 48] 36 (fun kq v8 v48 w' => ∃ (i : Nat) (P : Nat → Prop), v48 = .int .i64 (i : Int) ∧ v8 = .int .i64 ((told D0 sX (1 + (i : Int)) : Nat) : Int) ∧ Aside0 (i ≤ 35 ∧ i + kq = 35 + 1) ∧ Aside0 (Ck w1.heap.size P w' g (1 + (i : Int)) 3 (late D0 (1 + (i : Int)))) ∧ Aside0 (Below w.heap.size w w'))
    case atStart => exact ⟨0, _, rfl, by rw [show (1 : Int) + ((0 : Nat) : Int) = 1 from rfl, T7.out]; rfl, ⟨by omega, by omega⟩, C7, B7⟩
    case round =>
      clear T7 C7 B7
      obtain ⟨i, P, rfl, rfl, HI, C8, B8⟩ := hrel
      generalize wr = w8 at C8 B8 ⊢
      have HTL := Aside0.mk (told_le D0 sX (1 + (i : Int)))
      by_cases hi : i < 35
      rotate_left
      · have d1 : decide ((i : Int) < 35) = false := decide_eq_false (by omega)
        have d2 : decide (i < 35) = false := decide_eq_false hi
        have d3 : (i < 35) = False := eq_false hi
        have e8 : late D0 (1 + (i : Int)) = [] := List.filter_eq_nil_iff.2 (fun x hx => by have := HD.out x hx; simp; omega)
        have e9 := told_late (s := sX) e8
        rw [e8] at C8
        rw [e9, HCN.out]
        clear hi e8 e9 HTL
        go_wp2_with fail
        refine (clen_calls C8.out).mono ?_
        rintro x w9 ⟨rfl, hb⟩
        have C9 := Aside0.mk (C8.out.below hb); have B9 := Aside0.mk (below_step B8.out hb)
        clear hb C8 B8
        go_wp2_with fail
        refine (drop_any (s := sX) C9.out (by decide) (str_sz1 _) C9.out.size).mono ?_
        rintro x w10 ⟨rfl, hC, hb, hk⟩
        have B10 := Aside0.mk (B9.out.trans (hb.mono HN.out))
        clear hC hb hk
        rw [show (([] : List Du).any (fun x => decide (x.nm = sX))) = false from rfl]
        go_wp2_with fail
        go_ret
        exact ⟨rfl, B10.out⟩
      have d1 : decide ((i : Int) < 35) = true := decide_eq_true (by omega)
      have d2 : decide (i < 35) = true := decide_eq_true hi
      have d3 : (i < 35) = True := eq_true hi
      have NK := Aside0.mk (nkC hi HI.out)
      have b1_ : wrap64 ((i : Int) + 1) = ((i + 1 : Nat) : Int) := by unfold wrap64; omega
      have HIT := Aside0.mk hi
      clear hi
      go_wp2_with fail
      refine (tick_calls C8.out (fun x hx => by have := (List.mem_filter.1 hx).2; simpa using this) (by have := HIT.out; omega) (by decide)).mono ?_
      rintro x w9 ⟨⟨v9, rfl, hR⟩, hC, hb, hk⟩
      have ts := told_step D0 sX (1 + (i : Int))
      have hall : ∀ s ∈ (soon (late D0 (1 + (i : Int))) (1 + (i : Int) + 1)).map Du.nm, s = sX → 1 + (i : Int) + 1 = 1 + b := fun s hs e => by
        obtain ⟨x, hx, rfl⟩ := List.mem_map.1 hs
        rw [soon_late] at hx
        have h1 := List.mem_filter.1 hx
        have h2 := (HD.out x h1.1).2.2 e
        have h3 := h1.2
        simp at h3
        omega
      have hln : ((soon (late D0 (1 + (i : Int))) (1 + (i : Int) + 1)).map Du.nm).length ≤ 2 := by
        rw [List.length_map]
        exact Nat.le_trans (List.length_filter_le _ _) (Nat.le_trans (List.length_filter_le _ _) hlen.out)
      rw [late_late D0 (by omega)] at hC
      obtain ⟨L, hL⟩ : ∃ L, L = (soon (late D0 (1 + (i : Int))) (1 + (i : Int) + 1)).map Du.nm := ⟨_, rfl⟩
      rw [← hL] at hR ts hall hln
      have R9 := Aside0.mk hR; have C9 := Aside0.mk hC; have B9 := Aside0.mk (B8.out.trans (hb.mono HN.out)); have TS := Aside0.mk ts; have HAL := Aside0.mk hall; have HLN := Aside0.mk hln
      obtain ⟨A9, c9, e9⟩ := Kd.R_slice hR
      subst e9
      have b2_ : (1 : Int) + (i : Int) + 1 = 1 + ((i + 1 : Nat) : Int) := by omega
      rw [b2_] at C9 TS HAL
      clear hR hC hb hk ts hall hln hL C8 B8 b2_
      go_wp2_with fail
      go_loopg [8, 53] (L.length + 1) (fun kq v8 v53 w' => ∃ (j : Nat), v53 = .int .i64 (j : Int) ∧ v8 = .int .i64 ((told D0 sX (1 + (i : Int)) + cnt (L.take j) sX : Nat) : Int) ∧ Aside0 (j ≤ L.length ∧ j + kq = L.length + 1) ∧ Aside0 (Below w9.heap.size w9 w'))
      case atStart => exact ⟨0, rfl, rfl, ⟨by omega, by omega⟩, ⟨Below.refl _ _⟩⟩
      case round =>
        obtain ⟨j, rfl, rfl, HJ, BJ⟩ := hrel
        have CJ := Aside0.mk (C9.out.below BJ.out); have RJ := Aside0.mk (Kd.R_below R9.out BJ.out)
        generalize wr = wj at BJ CJ RJ ⊢
        by_cases hj : j < L.length
        rotate_left
        · have f1 : decide ((j : Int) < (L.length : Int)) = false := decide_eq_false (by omega)
          have f2 : decide (j < L.length) = false := decide_eq_false hj
          have f3 : (j < L.length) = False := eq_false hj
          have BE := Aside0.mk (below_step B9.out BJ.out)
          have e10 : told D0 sX (1 + (i : Int)) + cnt (L.take j) sX = told D0 sX (1 + ((i + 1 : Nat) : Int)) := by rw [List.take_of_length_le (by omega), ← TS.out]
          rw [e10]
          clear hj e10 d1 d2 d3
          go_wp2_with fail
          go_roundg (36 - (i + 1))
          case measure => have := NK.out; have := HI.out; omega
          case rel => exact ⟨i + 1, _, by (first | rw [b1_] | rfl), rfl, ⟨by have := NK.out; omega⟩, CJ, BE⟩
        have f1 : decide ((j : Int) < (L.length : Int)) = true := decide_eq_true (by omega)
        have f2 : decide (j < L.length) = true := decide_eq_true hj
        have f3 : (j < L.length) = True := eq_true hj
        have f4 : (0 : Int) ≤ (j : Int) := by omega
        have f5 : (j : Int) < (L.length : Int) := by omega
        have f6 := eq_true f4; have f7 := eq_true f5; have f8 : decide ((0 : Int) ≤ (j : Int)) = true := decide_eq_true f4
        have NJ := Aside0.mk (nkC hj HJ.out)
        obtain ⟨ad, ce, ee, y0⟩ := str_at RJ.out hj
        injection ee with ee _ ec
        subst ee
        have CT := Aside0.mk (count_take hj sX)
        have HM := Aside0.mk (HAL.out (L.getD j ⟨#[]⟩) (by rw [List.getD_eq_getElem?_getD, List.getElem?_eq_getElem hj]; exact List.getElem_mem hj))
        have b3_ : wrap64 ((j : Int) + 1) = ((j + 1 : Nat) : Int) := by have := HLN.out; unfold wrap64; omega
        have HCL := Aside0.mk (show cnt (L.take j) sX ≤ 2 from Nat.le_trans List.countP_le_length (by rw [List.length_take]; have := HLN.out; omega))
        obtain ⟨s, hs⟩ : ∃ s, s = L.getD j ⟨#[]⟩ := ⟨_, rfl⟩
        rw [← hs] at y0 CT HM
        clear hj hs ec
        by_cases hx : s = sX
        · subst hx
          rw [if_pos rfl] at CT
          have hnow := HM.out rfl
          have HNW := Aside0.mk hnow
          have b4_ : wrap64 (((told D0 sX (1 + (i : Int)) : Nat) : Int) + ((cnt (L.take j) sX : Nat) : Int) + 1) = ((told D0 sX (1 + (i : Int)) + cnt (L.take (j + 1)) sX : Nat) : Int) := by have := CT.out; have := HTL.out; have := hlen.out; have := HCL.out; unfold wrap64; omega
          clear hnow
          unfold sX at y0
          go_wp2_with fail
          refine (now_calls CJ.out).mono ?_
          rintro x wk ⟨rfl, hb⟩
          have BK := Aside0.mk (below_step BJ.out hb)
          have e5_ : wrap64 (1 + b) = 1 + b := by have := HAB.out; unfold wrap64; omega
          rw [HNW.out]
          clear hb CJ RJ BJ y0
          go_wp2_with fail
          go_roundg (L.length - j)
          case measure => have := NJ.out; have := HJ.out; omega
          case rel => exact ⟨j + 1, by (first | rw [b3_] | rfl), by (first | rw [b4_] | rfl), ⟨by have := NJ.out; have := HJ.out; omega⟩, BK⟩
        have hxe := ne_X hx
        have CT2 := Aside0.mk (show cnt (L.take (j + 1)) sX = cnt (L.take j) sX from by have := CT.out; rw [if_neg hx] at this; omega)
        clear hx
        go_wp2_with fail
        go_roundg (L.length - j)
        case measure => have := NJ.out; have := HJ.out; omega
        case rel => exact ⟨j + 1, by (first | rw [b3_] | rfl), by rw [CT2.out]; rfl, ⟨by have := NJ.out; have := HJ.out; omega⟩, BJ⟩
end Go.Proofs.Ytdodaepdghlolaa.Pure
