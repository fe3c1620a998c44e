/-
  ClockFull, walked by hand: as many names may be due as may be, and no more.
-/
import Derived.Test.YtdodaepdghlolaaHTicks
import Derived.Test.YtdodaepdghlolaaPStr
import Derived.Test.YtdodaepdghlolaaRowClockFull
namespace Go.Proofs.Ytdodaepdghlolaa.Pure.Clk
open Go.RowKit Go.Proofs.Ytdodaepdghlolaa.M Go.Proofs.YtdodaepdghlolaaW.PrintWords Go.Proofs.YtdodaepdghlolaaW.PrintLast Go.Proofs.YtdodaepdghlolaaW.PrintMore Go.Proofs.Ytdodaepdghlolaa.Pure
set_option linter.unusedVariables false
set_option linter.unusedSimpArgs false

theorem Ck.size_ {N : Nat} {P : Nat → Prop} {w : World} {g : Nat} {now turns : Int} {d : List Du} (h : Ck N P w g now turns d) : N ≤ w.heap.size := by
  obtain ⟨m, q, A, c, D, h⟩ := h
  exact h.isq.size
theorem nkF {i n gk : Nat} (hi : i < n) (h : i ≤ n ∧ i + gk = n + 1) : (i + 1 ≤ n ∧ i + 1 + (gk - 1) = n + 1) ∧ 0 < gk := by omega
/-- the name of number i -/
def nmOf (i : Nat) : ByteArray := strOfNums [(i : Int) % 256, ((i / 256 : Nat) : Int) % 256]
theorem nm_bs (i : Nat) : bs (nmOf i) = [(i : Int) % 256, ((i / 256 : Nat) : Int) % 256] := bs_str _ (fun x hx => by
  rcases List.mem_cons.1 hx with rfl | hx
  · exact ⟨by omega, by omega⟩
  · rw [List.mem_singleton.1 hx]; exact ⟨by omega, by omega⟩)
theorem nm_inj {i j : Nat} (hi : i < 65536) (hj : j < 65536) (h : nmOf i = nmOf j) : i = j := by
  have h2 : bs (nmOf i) = bs (nmOf j) := by rw [h]
  rw [nm_bs, nm_bs] at h2
  injection h2 with h3 h4
  injection h4 with h4 _
  omega
theorem nm_size (i : Nat) : (nmOf i).size = 2 := by rw [← bs_length, nm_bs]; rfl
theorem nm_0 : nmOf 0 = ⟨#[0, 0]⟩ := by decide +kernel
theorem nm_1 : nmOf 1 = ⟨#[1, 0]⟩ := by decide +kernel
theorem names_ne {d : List Du} {k i : Nat} (h : d.map Du.nm = (List.range k).map nmOf) (hk : k ≤ i) (hi : i < 65536) : ∀ x ∈ d, x.nm ≠ nmOf i := fun x hx e => by
  have h1 : x.nm ∈ d.map Du.nm := List.mem_map_of_mem hx
  rw [h] at h1
  obtain ⟨j, hj, e2⟩ := List.mem_map.1 h1
  have := List.mem_range.1 hj
  have := nm_inj (by omega) hi (e2.trans e)
  omega
theorem names_len {d : List Du} {k : Nat} (h : d.map Du.nm = (List.range k).map nmOf) : d.length = k := by
  have := congrArg List.length h
  simpa using this
theorem names_has {d : List Du} {k i : Nat} (h : d.map Du.nm = (List.range k).map nmOf) (hi : i < k) : ∃ x ∈ d, x.nm = nmOf i := by
  have h1 : nmOf i ∈ d.map Du.nm := by rw [h]; exact List.mem_map_of_mem (List.mem_range.2 hi)
  obtain ⟨x, hx, e⟩ := List.mem_map.1 h1
  exact ⟨x, hx, e⟩
theorem names_nodup {k : Nat} (hk : k ≤ 65536) : ((List.range k).map nmOf).Nodup := by
  rw [List.nodup_iff_pairwise_ne, List.pairwise_map]
  refine (List.nodup_iff_pairwise_ne.1 List.nodup_range).imp_of_mem (fun {a b} ha hb h e => h ?_)
  have := List.mem_range.1 ha
  have := List.mem_range.1 hb
  exact nm_inj (by omega) (by omega) e
theorem names_z {d : List Du} {k : Nat} (h : d.map Du.nm = (List.range k).map nmOf) : ∀ x ∈ d, x.nm ≠ ⟨#[122]⟩ := fun x hx e => by
  have h1 : x.nm ∈ d.map Du.nm := List.mem_map_of_mem hx
  rw [h] at h1
  obtain ⟨j, hj, e2⟩ := List.mem_map.1 h1
  have := nm_size j
  rw [e2, e] at this
  exact absurd this (by show (1 : Nat) ≠ 2; decide)
theorem sz_le (i : Nat) : (nmOf i).size ≤ 9223372036854775807 := by rw [nm_size]; decide
end Go.Proofs.Ytdodaepdghlolaa.Pure.Clk
namespace Go.Proofs.Ytdodaepdghlolaa.Pure
open Go.RowKit Go.Proofs.Ytdodaepdghlolaa.M Go.Proofs.YtdodaepdghlolaaW.PrintWords Go.Proofs.YtdodaepdghlolaaW.PrintLast Go.Proofs.YtdodaepdghlolaaW.PrintMore Go.Proofs.Ytdodaepdghlolaa.Pure
set_option linter.unusedVariables false
set_option linter.unusedSimpArgs false
open Clk
set_option maxHeartbeats 16000000 in
set_option maxRecDepth 100000 in
theorem ClockFull_hand (n later : Int) (w : World) (g0 : (Lit.int .i64 n).wf = true) (g1 : (Lit.int .i64 later).wf = true) :
    Calls Try.prog 4 #[.int .i64 n, .int .i64 later] w fun e w' => e = .returned (.bool true) ∧ Below w.heap.size w w' := by
  clear g0 g1
  go_enter Try.func4, Try.ntmps4
  go_wp2_with fail
  refine (ticks_calls w).mono ?_
  rintro x w1 ⟨rfl, hb⟩
  have B1 := Aside0.mk hb
  clear hb
  by_cases hu : n < 4090
  · have u0 : decide (n < 4090) = true := decide_eq_true (by omega)
    clear hu
    go_wp2_with fail
    go_ret
    exact ⟨rfl, B1.out⟩
  have ua : decide (n < 4090) = false := decide_eq_false hu
  have HA := Aside0.mk hu
  clear hu
  by_cases hu : n > 4100
  · have u0 : decide (n > 4100) = true := decide_eq_true (by omega)
    have u1 : decide (4100 < n) = true := decide_eq_true (by omega)
    clear hu
    go_wp2_with fail
    go_ret
    exact ⟨rfl, B1.out⟩
  have uc : decide (n > 4100) = false := decide_eq_false hu
  have ud : decide (4100 < n) = false := decide_eq_false (by omega)
  have HA2 := Aside0.mk hu
  clear hu
  by_cases hu : later < 1
  · have u0 : decide (later < 1) = true := decide_eq_true (by omega)
    clear hu
    go_wp2_with fail
    go_ret
    exact ⟨rfl, B1.out⟩
  have ue : decide (later < 1) = false := decide_eq_false hu
  have HB := Aside0.mk hu
  clear hu
  by_cases hu : later > 1000
  · have u0 : decide (later > 1000) = true := decide_eq_true (by omega)
    have u1 : decide (1000 < later) = true := decide_eq_true (by omega)
    clear hu
    go_wp2_with fail
    go_ret
    exact ⟨rfl, B1.out⟩
  have uf : decide (later > 1000) = false := decide_eq_false hu
  have ug : decide (1000 < later) = false := decide_eq_false (by omega)
  have HB2 := Aside0.mk hu
  clear hu
  obtain ⟨n, rfl⟩ := Int.eq_ofNat_of_zero_le (show 0 ≤ n by have := HA.out; omega)
  have HAB := Aside0.mk (show 4090 ≤ n ∧ n ≤ 4100 ∧ 1 ≤ later ∧ later ≤ 1000 by have := HA.out; have := HA2.out; have := HB.out; have := HB2.out; omega)
  clear HA HA2 HB HB2
  go_wp2_with fail
  refine (new_calls w1).mono ?_
  rintro x w2 ⟨⟨g, rfl, hC⟩, hb⟩
  have C2 := Aside0.mk hC; have B2 := Aside0.mk (below_step B1.out hb)
  have HN := Aside0.mk B1.out.size; have HS2 := Aside0.mk hb.size
  clear hC hb ua uc ud ue uf ug
  go_wp2_with fail
  go_loopg [26] (n + 1) (fun kq v26 w' => ∃ (i : Nat) (d : List Du), v26 = .int .i64 (i : Int) ∧ Aside0 (i ≤ n ∧ i + kq = n + 1) ∧ Aside0 (Ck w1.heap.size (fun k => w1.heap.size ≤ k) w' g 0 (i : Int) d) ∧ Aside0 (d.map Du.nm = (List.range (min i 4096)).map nmOf) ∧ Aside0 (Below w.heap.size w w'))
  case atStart => exact ⟨0, [], rfl, ⟨by omega, by omega⟩, C2, ⟨rfl⟩, B2⟩
  case round =>
    clear C2 B2
    obtain ⟨i, d, rfl, HI, C3, D3, B3⟩ := hrel
    generalize wr = w3 at C3 B3 ⊢
    by_cases hi : i < n
    rotate_left
    · have d1 : decide ((i : Int) < (n : Int)) = false := decide_eq_false (by omega)
      have d2 : decide (i < n) = false := decide_eq_false hi
      have d3 : (i < n) = False := eq_false hi
      have hin : i = n := by have := HI.out.1; omega
      subst hin
      clear hi
      by_cases h4 : i ≤ 4096
      · have t1 : decide ((i : Int) ≤ 4096) = true := decide_eq_true (by omega)
        have HLN := Aside0.mk (show d.length = i by rw [names_len D3.out]; omega)
        clear h4
        go_wp2_with fail
        refine (clen_calls C3.out).mono ?_
        rintro x w9 ⟨rfl, hb⟩
        have B9 := Aside0.mk (below_step B3.out hb)
        rw [HLN.out]
        clear hb
        go_wp2_with fail
        go_ret
        exact ⟨by first | rfl | simp, B9.out⟩
      have t1 : decide ((i : Int) ≤ 4096) = false := decide_eq_false (by omega)
      have hm : min i 4096 = 4096 := by omega
      have hD := D3.out
      rw [hm] at hD
      have HD := Aside0.mk hD
      clear h4 hm hD D3
      have HTU := Aside0.mk (show (i : Int) < 5000 by have := HAB.out; omega)
      go_wp2_with fail
      rw [← nm_0]
      refine (set_ok (s := nmOf 0) (later := later) C3.out (by have := HAB.out; omega) (by have := HTU.out; omega) (sz_le 0) (Or.inl (names_has HD.out (by decide)))).mono ?_
      rintro x w4 ⟨rfl, ⟨b4, hC⟩, hb, hk⟩
      have hl4 : (but d (nmOf 0) ++ [(⟨nmOf 0, 0 + later, (i : Int) + 1, b4⟩ : Du)]).length = 4096 := by
        obtain ⟨y, hy, e⟩ := names_has (i := 0) HD.out (by decide)
        have := but_len hy (by rw [HD.out]; exact names_nodup (by decide))
        rw [e, names_len HD.out] at this
        simp; omega
      have hz4 : ∀ x ∈ but d (nmOf 0) ++ [(⟨nmOf 0, 0 + later, (i : Int) + 1, b4⟩ : Du)], x.nm ≠ ⟨#[122]⟩ := fun x hx => by
        rcases List.mem_append.1 hx with hx | hx
        · exact names_z HD.out x (List.mem_filter.1 hx).1
        · rw [List.mem_singleton.1 hx]; show nmOf 0 ≠ _; rw [nm_0]; decide
      have h14 : ∃ x ∈ but d (nmOf 0) ++ [(⟨nmOf 0, 0 + later, (i : Int) + 1, b4⟩ : Du)], x.nm = nmOf 1 := by
        obtain ⟨y, hy, e⟩ := names_has (i := 1) HD.out (by decide)
        exact ⟨y, List.mem_append_left _ (List.mem_filter.2 ⟨hy, by rw [e]; exact decide_eq_true (fun q => absurd (nm_inj (by decide) (by decide) q) (by decide))⟩), e⟩
      generalize but d (nmOf 0) ++ [(⟨nmOf 0, 0 + later, (i : Int) + 1, b4⟩ : Du)] = d4 at hC hl4 hz4 h14
      have C4 := Aside0.mk hC; have B4 := Aside0.mk (B3.out.trans (hb.mono HN.out)); have HL4 := Aside0.mk hl4; have HZ4 := Aside0.mk hz4; have H14 := Aside0.mk h14
      clear hC hb hk hl4 hz4 h14 C3 B3
      go_wp2_with fail
      refine (set_full (s := ⟨#[122]⟩) (later := 1) C4.out (by decide) (by have := HTU.out; omega) (str_sz1 _) HZ4.out HL4.out).mono ?_
      rintro x w5 ⟨rfl, hC, hb, hk⟩
      have C5 := Aside0.mk hC; have B5 := Aside0.mk (B4.out.trans (hb.mono HN.out))
      clear hC hb hk C4 B4
      go_wp2_with fail
      rw [← nm_1]
      obtain ⟨y, hy, ey⟩ := H14.out
      refine (drop_any (s := nmOf 1) C5.out (by have := HTU.out; omega) (sz_le 1) C5.out.size_).mono ?_
      rintro x w6 ⟨rfl, hC, hb, hk⟩
      rw [show d4.any (fun x => decide (x.nm = nmOf 1)) = true from ey ▸ any_yes hy]
      have C6 := Aside0.mk hC; have B6 := Aside0.mk (B5.out.trans (hb.mono HN.out))
      have HL6 := Aside0.mk (show (but d4 (nmOf 1)).length = 4095 by
        have := but_len hy (by obtain ⟨m, q, A, c, D, h⟩ := C5.out; exact h.good.names)
        rw [ey, HL4.out] at this; omega)
      have HZ6 := Aside0.mk (show ∀ x ∈ but d4 (nmOf 1), x.nm ≠ ⟨#[122]⟩ from fun x hx => HZ4.out x (List.mem_filter.1 hx).1)
      clear hC hb hk C5 B5 hy ey
      go_wp2_with fail
      refine (set_new (s := ⟨#[122]⟩) (later := 1) C6.out (by decide) (by have := HTU.out; omega) (str_sz1 _) HZ6.out (by rw [HL6.out]; decide)).mono ?_
      rintro x w7 ⟨rfl, ⟨b7, hC⟩, hb, hk⟩
      have C7 := Aside0.mk hC; have B7 := Aside0.mk (B6.out.trans (hb.mono HN.out))
      clear hC hb hk C6 B6
      go_wp2_with fail
      refine (clen_calls C7.out).mono ?_
      rintro x w8 ⟨rfl, hb⟩
      have B8 := Aside0.mk (below_step B7.out hb)
      rw [List.length_append, List.length_singleton, HL6.out]
      clear hb
      go_wp2_with fail
      go_ret
      exact ⟨rfl, B8.out⟩
    have d1 : decide ((i : Int) < (n : Int)) = true := decide_eq_true (by omega)
    have d2 : decide (i < n) = true := decide_eq_true hi
    have d3 : (i < n) = True := eq_true hi
    have NK := Aside0.mk (nkF hi HI.out)
    have HII := Aside0.mk hi
    clear hi
    have b2_ : wrap64 ((i : Int) + 1) = ((i + 1 : Nat) : Int) := by have := HAB.out; have := HII.out; unfold wrap64; omega
    have b1_ : wrap64 ((i : Int) / 256) = ((i / 256 : Nat) : Int) := by have := HAB.out; have := HII.out; unfold wrap64; omega
    go_wp2_with (first | ((with_reducible refine gate_dst (N := 35) rfl ?_); refine Kd.R_lit (Kd.int .u8) _ 5 ?hg (N := 35) ?hd (xs := ([(i : Int) % 256, ((i / 256 : Nat) : Int) % 256] : List Int)) (inner := [.int .u8 ((i : Int) % 256), .int .u8 (((i / 256 : Nat) : Int) % 256)]) (ok := fun _ => True) (okp := fun _ => True) ?hr ?hp (fun _ hk => hk) trivial (Below.refl _ _) (Nat.le_refl _) (by simp) ?_; (case hd => rfl); (case hg => rfl); (case hr => first | (go_simp; done) | (go_simp; rfl)); (case hp => exact (Reps.one (show Kd.M (Kd.int .u8) _ _ _ ((i : Int) % 256) [.int .u8 ((i : Int) % 256)] from rfl) (Reps.one (show Kd.M (Kd.int .u8) _ _ _ (((i / 256 : Nat) : Int) % 256) [.int .u8 (((i / 256 : Nat) : Int) % 256)] from rfl) (Reps.none _ _)))); intro vL w4 ho10 hb hg_ hnew_; have hcv := own_string (P := Try.prog) Try.underlying28 Try.underlying5 Try.underlying9 (Kd.own_of_R ho10); obtain ⟨AN, cN, eN, hcN, hrN⟩ := Kd.R_reads ho10; subst eN; have hcw : (convert 28 9 (.slice AN 2 cN)).run Try.prog w4 = .ok (.string (nmOf i)) w4 := hcv; clear hcv; have HS4 := Aside0.mk (Nat.le_trans C3.out.size_ hb.size); have C4 := Aside0.mk (C3.out.below hb); have B4 := Aside0.mk (below_step B3.out hb); clear ho10 hb hg_ hnew_ hcN hrN))
    by_cases h4 : i < 4096
    · have t1 : decide ((i : Int) < 4096) = true := decide_eq_true (by omega)
      have hm : min i 4096 = i := by omega
      have hm2 : min (i + 1) 4096 = i + 1 := by omega
      have hD := D3.out
      rw [hm] at hD
      have HD := Aside0.mk hD; have H4 := Aside0.mk h4; have HM2 := Aside0.mk hm2
      clear h4 hm hD hm2
      refine (set_new (s := nmOf i) (later := later) C4.out (by have := HAB.out; omega) (by have := HAB.out; have := HII.out; omega) (sz_le i) (names_ne HD.out (Nat.le_refl _) (by have := H4.out; omega)) (by rw [names_len HD.out]; exact H4.out)).mono ?_
      rintro x w5 ⟨rfl, ⟨b, hC⟩, hb, hk⟩
      rw [show ((i : Int) + 1) = ((i + 1 : Nat) : Int) from rfl] at hC
      have C5 := Aside0.mk (hC.mono (P' := fun k => w1.heap.size ≤ k) (fun k q => q.elim id (fun q => Nat.le_trans HS4.out q))); have B5 := Aside0.mk (B4.out.trans (hb.mono HN.out))
      have D5 := Aside0.mk (show (d ++ [(⟨nmOf i, 0 + later, ((i + 1 : Nat) : Int), b⟩ : Du)]).map Du.nm = (List.range (min (i + 1) 4096)).map nmOf by rw [HM2.out, List.range_succ, List.map_append, List.map_append, HD.out]; rfl)
      clear hC hb hk C4 B4 hcw
      go_wp2_with fail
      go_roundg (gk - 1)
      case measure => have := NK.out.2; omega
      case rel => exact ⟨i + 1, _, by (first | rw [b2_] | rfl), ⟨NK.out.1⟩, C5, D5, B5⟩
    have t1 : decide ((i : Int) < 4096) = false := decide_eq_false (by omega)
    have hm : min i 4096 = 4096 := by omega
    have hm2 : min (i + 1) 4096 = 4096 := by omega
    have hD := D3.out
    rw [hm] at hD
    have HD := Aside0.mk hD; have H4 := Aside0.mk h4
    have D5 := Aside0.mk (show d.map Du.nm = (List.range (min (i + 1) 4096)).map nmOf by rw [hm2]; exact hD)
    clear h4 hm hD hm2
    refine (set_full (s := nmOf i) (later := later) C4.out (by have := HAB.out; omega) (by have := HAB.out; have := HII.out; omega) (sz_le i) (names_ne HD.out (by have := H4.out; omega) (by have := HAB.out; have := HII.out; omega)) (names_len HD.out)).mono ?_
    rintro x w5 ⟨rfl, hC, hb, hk⟩
    rw [show ((i : Int) + 1) = ((i + 1 : Nat) : Int) from rfl] at hC
    have C5 := Aside0.mk hC; have B5 := Aside0.mk (B4.out.trans (hb.mono HN.out))
    clear hC hb hk C4 B4 hcw
    go_wp2_with fail
    go_roundg (gk - 1)
    case measure => have := NK.out.2; omega
    case rel => exact ⟨i + 1, d, by (first | rw [b2_] | rfl), ⟨NK.out.1⟩, C5, D5, B5⟩
end Go.Proofs.Ytdodaepdghlolaa.Pure
