/-
  container/heap over the clock's queue.
-/
import Derived.Test.YtdodaepdghlolaaOClk3
namespace Go.Proofs.Ytdodaepdghlolaa.Pure.Clk
open Go.RowKit Go.Proofs.Ytdodaepdghlolaa.M Go.Proofs.YtdodaepdghlolaaW.PrintWords Go.Proofs.YtdodaepdghlolaaW.PrintLast Go.Proofs.YtdodaepdghlolaaW.PrintMore Go.Proofs.Ytdodaepdghlolaa.Pure
set_option linter.unusedVariables false
set_option linter.unusedSimpArgs false
variable {N : Nat} {P P' : Nat → Prop} {w w' : World} {g : Nat} {now turns : Int} {m : Nat} {q : List Du} {A : Option Addr} {c : Nat}

def TOk (q : List Du) : Prop := ∀ x ∈ q, 0 ≤ x.tn ∧ x.tn < 9223372036854775807
theorem TOk.perm {q q' : List Du} (h : TOk q) (hp : q'.Perm q) : TOk q' := fun x hx => h x (hp.mem_iff.1 hx)
set_option maxHeartbeats 8000000 in
set_option maxRecDepth 100000 in
theorem up_calls {n j : Nat} (h : IsQ N P w g now turns m q A c) (hn : n ≤ q.length) (hu : HUp q n j) (ht : TOk q) (hl : q.length ≤ 4097) :
    Calls Try.prog 26 #[.iface 65 (.pointer (some ⟨g, 2, none⟩)), .int .i64 (j : Int)] w fun e w' => e = .returned (.tuple #[]) ∧ (∃ q', IsQ N P w' g now turns m q' A c ∧ q'.Perm q ∧ Hp q' n ∧ q'.drop n = q.drop n) ∧ Below N w w' ∧ Kept w w' P := by
  have H := Aside0.mk h; have HN := Aside0.mk hn; have HU := Aside0.mk hu; have HT := Aside0.mk ht; have HL := Aside0.mk hl
  have HSZ := Aside0.mk (show N ≤ w.heap.size by have := blk_lt h.hg; have := h.ng; omega)
  have B0 := Aside0.mk (Below.refl N w); have K0 := Aside0.mk (Kept.refl w P)
  clear h hn hu ht hl
  go_enter Try.func26, Try.ntmps26
  go_wp2_with fail
  go_loopg [1] (j + 1) (fun kq v1 w' => ∃ (j' : Nat) (q1 : List Du), v1 = .int .i64 (j' : Int) ∧ Aside0 (kq = j' + 1) ∧ Aside0 (IsQ N P w' g now turns m q1 A c) ∧ Aside0 (HUp q1 n j') ∧ Aside0 (q1.Perm q ∧ q1.drop n = q.drop n) ∧ Aside0 (Below N w w') ∧ Aside0 (Kept w w' P))
  case atStart => exact ⟨j, q, rfl, ⟨rfl⟩, H, HU, ⟨List.Perm.refl _, rfl⟩, B0, K0⟩
  case round =>
    obtain ⟨j', q1, rfl, HK, H1, HU1, HP1, B1, K1⟩ := hrel
    clear H HU B0 K0
    generalize wr = w1 at H1 B1 K1 ⊢
    have HL1 := Aside0.mk (show q1.length = q.length from HP1.out.1.length_eq)
    have HT1 := Aside0.mk (HT.out.perm HP1.out.1)
    have HS1 := Aside0.mk (Nat.le_trans HSZ.out B1.out.size)
    by_cases hj : j' = 0
    · subst hj
      go_wp2_with fail
      go_end0
      exact ⟨rfl, ⟨q1, H1.out, HP1.out.1, up_end HU1.out (Or.inl rfl), HP1.out.2⟩, B1.out, K1.out⟩
    obtain ⟨i, hi⟩ : ∃ i, i = (j' - 1) / 2 := ⟨_, rfl⟩
    have HI := Aside0.mk hi; have HJ := Aside0.mk hj; have HJN := Aside0.mk (show j' < q1.length by have := HU1.out.1; have := HN.out; rw [HL1.out]; omega)
    have b1 : wrap64 ((j' : Int) - 1) = ((j' - 1 : Nat) : Int) := by have := HU1.out.1; have := HN.out; have := HL.out; unfold wrap64; omega
    have b2 : wrap64 (((j' - 1 : Nat) : Int) / 2) = (i : Int) := by have := HU1.out.1; have := HN.out; have := HL.out; rw [hi]; unfold wrap64; omega
    have e1 : ((i : Int) == (j' : Int)) = false := beq_eq_false_iff_ne.mpr (by omega)
    have hmLess := meth_Less ((blk_cell H1.out.hg 2).trans rfl : w1.cell? ⟨g, 2, none⟩ = some (.slice A q1.length c)); have hmSwap := meth_Swap ((blk_cell H1.out.hg 2).trans rfl : w1.cell? ⟨g, 2, none⟩ = some (.slice A q1.length c))
    clear hi hj
    go_wp2_with fail
    refine (less_calls H1.out HJN.out (by have := HI.out; have := HJN.out; omega) HT1.out).mono ?_
    rintro x w2 ⟨rfl, hb⟩
    have H2 := Aside0.mk (H1.out.below hb); have B2 := Aside0.mk (below_on B1.out HS1.out hb); have K2 := Aside0.mk (K1.out.below hb)
    clear hb H1 B1 K1 hmLess hmSwap HS1
    have hmSwap := meth_Swap ((blk_cell H2.out.hg 2).trans rfl : w2.cell? ⟨g, 2, none⟩ = some (.slice A q1.length c))
    by_cases hq : kq q1 j' < kq q1 i
    rotate_left
    · have q1_ : decide (kq q1 j' < kq q1 i) = false := decide_eq_false hq
      have HQ := Aside0.mk hq
      rw [q1_]
      clear hq
      go_wp2_with fail
      go_end0
      exact ⟨rfl, ⟨q1, H2.out, HP1.out.1, up_end HU1.out (Or.inr (by rw [← HI.out]; have := HQ.out; omega)), HP1.out.2⟩, B2.out, K2.out⟩
    have q1_ : decide (kq q1 j' < kq q1 i) = true := decide_eq_true hq
    have HQ := Aside0.mk hq
    rw [q1_]
    clear hq q1_
    have HIL := Aside0.mk (show i < q1.length by have := HI.out; have := HJN.out; omega)
    go_wp2_with fail
    refine (swap_calls H2.out HIL.out HJN.out).mono ?_
    rintro x w3 ⟨rfl, hI, hb, hk⟩
    have HU3 := Aside0.mk (up_step (by rw [HL1.out]; exact HN.out) HU1.out (by have := HJ.out; omega) HI.out HQ.out)
    have HP3 := Aside0.mk (show (swap q1 i j').Perm q ∧ (swap q1 i j').drop n = q.drop n from ⟨(swap_perm HIL.out HJN.out).trans HP1.out.1, (swap_drop (by have := HI.out; have := HU1.out.1; omega) HU1.out.1).trans HP1.out.2⟩)
    have H3 := Aside0.mk hI; have B3 := Aside0.mk (B2.out.trans hb); have K3 := Aside0.mk (K2.out.then_ hk (fun k hk => .inl hk))
    clear hI hb hk
    go_wp2_with fail
    go_roundg (i + 1)
    case measure => have := HK.out; have := HI.out; have := HJ.out; omega
    case rel => exact ⟨i, swap q1 i j', rfl, ⟨rfl⟩, H3, HU3, HP3, B3, K3⟩
def DR (q q1 : List Du) (n i0 i : Nat) : Prop := HBo q1 n i ∧ ((i = i0 ∧ q1 = q) ∨ (i0 < i ∧ i < n ∧ kq q1 ((i - 1) / 2) ≤ kq q1 i))
def DownR (N : Nat) (P : Nat → Prop) (g : Nat) (now turns : Int) (m : Nat) (q : List Du) (A : Option Addr) (c n i0 : Nat) (e : Ending) (w' : World) : Prop := ∃ (b : Bool) (q' : List Du), e = .returned (.bool b) ∧ IsQ N P w' g now turns m q' A c ∧ q'.Perm q ∧ q'.drop n = q.drop n ∧ (b = true → Hp q' n) ∧ (b = false → q' = q ∧ ∀ c, 0 < c → c < n → (c - 1) / 2 = i0 → kq q i0 ≤ kq q c)
set_option maxHeartbeats 8000000 in
set_option maxRecDepth 100000 in
theorem down_calls {n i0 : Nat} (h : IsQ N P w g now turns m q A c) (hn : n ≤ q.length) (hu : HBo q n i0) (hi0 : i0 ≤ n) (ht : TOk q) (hl : q.length ≤ 4097) :
    Calls Try.prog 25 #[.iface 65 (.pointer (some ⟨g, 2, none⟩)), .int .i64 (i0 : Int), .int .i64 (n : Int)] w fun e w' => DownR N P g now turns m q A c n i0 e w' ∧ Below N w w' ∧ Kept w w' P := by
  have H := Aside0.mk h; have HN := Aside0.mk hn; have HI0 := Aside0.mk hi0; have HT := Aside0.mk ht; have HL := Aside0.mk hl
  have HSZ := Aside0.mk (show N ≤ w.heap.size by have := blk_lt h.hg; have := h.ng; omega)
  have B0 := Aside0.mk (Below.refl N w); have K0 := Aside0.mk (Kept.refl w P)
  have HR0 := Aside0.mk (show DR q q n i0 i0 from ⟨hu, Or.inl ⟨rfl, rfl⟩⟩)
  clear h hn hu ht hl hi0
  go_enter Try.func25, Try.ntmps25
  go_wp2_with fail
  go_loopg [7] (n + 1) (fun kq_ v7 w' => ∃ (i : Nat) (q1 : List Du), v7 = .int .i64 (i : Int) ∧ Aside0 (kq_ + i = n + i0 + 1 ∧ i ≤ n) ∧ Aside0 (IsQ N P w' g now turns m q1 A c) ∧ Aside0 (DR q q1 n i0 i) ∧ Aside0 (q1.Perm q ∧ q1.drop n = q.drop n) ∧ Aside0 (Below N w w') ∧ Aside0 (Kept w w' P))
  case atStart => exact ⟨i0, q, rfl, ⟨by omega, HI0.out⟩, H, HR0, ⟨List.Perm.refl _, rfl⟩, B0, K0⟩
  case round =>
    obtain ⟨i, q1, rfl, HK, H1, HR1, HP1, B1, K1⟩ := hrel
    clear H HR0 B0 K0
    generalize wr = w1 at H1 B1 K1 ⊢
    have HL1 := Aside0.mk (show q1.length = q.length from HP1.out.1.length_eq)
    have HT1 := Aside0.mk (HT.out.perm HP1.out.1)
    have HS1 := Aside0.mk (Nat.le_trans HSZ.out B1.out.size)
    obtain ⟨j1, hj1⟩ : ∃ j1, j1 = 2 * i + 1 := ⟨_, rfl⟩
    obtain ⟨j2, hj2⟩ : ∃ j2, j2 = 2 * i + 2 := ⟨_, rfl⟩
    have HJ1 := Aside0.mk hj1; have HJ2 := Aside0.mk hj2
    have b1 : wrap64 (2 * (i : Int)) = 2 * (i : Int) := by have := HK.out.2; have := HN.out; have := HL.out; unfold wrap64; omega
    have b2 : wrap64 (2 * (i : Int) + 1) = (j1 : Int) := by have := HK.out.2; have := HN.out; have := HL.out; unfold wrap64; omega
    have b3 : wrap64 ((j1 : Int) + 1) = (j2 : Int) := by have := HK.out.2; have := HN.out; have := HL.out; unfold wrap64; omega
    have b4 : decide ((j1 : Int) < 0) = false := decide_eq_false (by omega)
    have b5 : ((j1 : Int) < 0) = False := eq_false (by omega)
    clear hj1 hj2
    by_cases h1 : j1 < n
    rotate_left
    · have d1 : decide ((j1 : Int) ≥ (n : Int)) = true := decide_eq_true (by omega)
      have d2 : decide ((n : Int) ≤ (j1 : Int)) = true := decide_eq_true (by omega)
      have d3 : decide (n ≤ j1) = true := decide_eq_true (by omega)
      have d4 : (n ≤ j1) = True := eq_true (by omega)
      have HX := Aside0.mk h1
      clear h1
      have HC := Aside0.mk (show ∀ c, 0 < c → c < n → (c - 1) / 2 = i → kq q1 i ≤ kq q1 c from fun c c0 cn cp => absurd cn (by have := HX.out; have := HJ1.out; omega))
      rcases HR1.out with ⟨hbo, ⟨hi, hq⟩ | ⟨hi, hin, hpar⟩⟩
      · subst hi
        have g1 : decide ((i : Int) > (i : Int)) = false := decide_eq_false (by omega)
        have HQ1 := Aside0.mk hq
        clear hbo hq
        go_wp2_with fail
        go_ret
        exact ⟨⟨false, q1, rfl, H1.out, HP1.out.1, HP1.out.2, fun h => by simp at h, fun _ => ⟨HQ1.out, by have h := HC.out; rw [HQ1.out] at h; exact h⟩⟩, B1.out, K1.out⟩
      have g1 : decide ((i : Int) > (i0 : Int)) = true := decide_eq_true (by omega)
      have g2 : decide ((i0 : Int) < (i : Int)) = true := decide_eq_true (by omega)
      have g3 : decide (i0 < i) = true := decide_eq_true hi
      have g4 : (i0 < i) = True := eq_true hi
      have HPAR := Aside0.mk hpar; have HIN := Aside0.mk hin; have HBO := Aside0.mk hbo
      clear hi hbo hpar hin
      go_wp2_with fail
      go_ret
      exact ⟨⟨true, q1, rfl, H1.out, HP1.out.1, HP1.out.2, fun _ => up_end (down_end HIN.out HBO.out HC.out) (Or.inr HPAR.out), fun h => by simp at h⟩, B1.out, K1.out⟩
    have d1 : decide ((j1 : Int) ≥ (n : Int)) = false := decide_eq_false (by omega)
    have d2 : decide ((n : Int) ≤ (j1 : Int)) = false := decide_eq_false (by omega)
    have d3 : decide (n ≤ j1) = false := decide_eq_false (by omega)
    have d4 : (n ≤ j1) = False := eq_false (by omega)
    have HX := Aside0.mk h1
    have HIL := Aside0.mk (show i < q1.length by have := HN.out; have := HL1.out; have := HJ1.out; omega)
    have HJ1L := Aside0.mk (show j1 < q1.length by have := HN.out; have := HL1.out; omega)
    clear h1
    by_cases h2 : j2 < n
    rotate_left
    · have t1 : decide ((j2 : Int) < (n : Int)) = false := decide_eq_false (by omega)
      have t2 : decide (j2 < n) = false := decide_eq_false h2
      have t3 : (j2 < n) = False := eq_false h2
      have HY := Aside0.mk h2
      clear h2
      have hmLess := meth_Less ((blk_cell H1.out.hg 2).trans rfl : w1.cell? ⟨g, 2, none⟩ = some (.slice A q1.length c)); have hmSwap := meth_Swap ((blk_cell H1.out.hg 2).trans rfl : w1.cell? ⟨g, 2, none⟩ = some (.slice A q1.length c))
      go_wp2_with fail
      refine (less_calls H1.out HJ1L.out HIL.out HT1.out).mono ?_
      rintro x w2 ⟨rfl, hb⟩
      have H2 := Aside0.mk (H1.out.below hb); have B2 := Aside0.mk (below_on B1.out HS1.out hb); have K2 := Aside0.mk (K1.out.below hb)
      clear hb H1 B1 K1 hmLess hmSwap
      by_cases hq : kq q1 j1 < kq q1 i
      rotate_left
      · have q1_ : decide (kq q1 j1 < kq q1 i) = false := decide_eq_false hq
        have HQ := Aside0.mk hq
        have HM := Aside0.mk (show ∀ c, 0 < c → c < n → (c - 1) / 2 = i → kq q1 j1 ≤ kq q1 c from fun c c0 cn cp => by have e : c = j1 := (by have := HJ1.out; have := HJ2.out; have := HY.out; omega); rw [e]; exact Int.le_refl _)
        rw [q1_]
        clear hq q1_
        have HC := Aside0.mk (show ∀ c, 0 < c → c < n → (c - 1) / 2 = i → kq q1 i ≤ kq q1 c from fun c c0 cn cp => by have := HM.out c c0 cn cp; have := HQ.out; omega)
        rcases HR1.out with ⟨hbo, ⟨hi, hq⟩ | ⟨hi, hin, hpar⟩⟩
        · subst hi
          have g1 : decide ((i : Int) > (i : Int)) = false := decide_eq_false (by omega)
          have HQ1 := Aside0.mk hq
          clear hbo hq
          go_wp2_with fail
          go_ret
          exact ⟨⟨false, q1, rfl, H2.out, HP1.out.1, HP1.out.2, fun h => by simp at h, fun _ => ⟨HQ1.out, by have h := HC.out; rw [HQ1.out] at h; exact h⟩⟩, B2.out, K2.out⟩
        have g1 : decide ((i : Int) > (i0 : Int)) = true := decide_eq_true (by omega)
        have g2 : decide ((i0 : Int) < (i : Int)) = true := decide_eq_true (by omega)
        have g3 : decide (i0 < i) = true := decide_eq_true hi
        have g4 : (i0 < i) = True := eq_true hi
        have HPAR := Aside0.mk hpar; have HIN := Aside0.mk hin; have HBO := Aside0.mk hbo
        clear hi hbo hpar hin
        go_wp2_with fail
        go_ret
        exact ⟨⟨true, q1, rfl, H2.out, HP1.out.1, HP1.out.2, fun _ => up_end (down_end HIN.out HBO.out HC.out) (Or.inr HPAR.out), fun h => by simp at h⟩, B2.out, K2.out⟩
      have q1_ : decide (kq q1 j1 < kq q1 i) = true := decide_eq_true hq
      have HQ := Aside0.mk hq
      have HM := Aside0.mk (show ∀ c, 0 < c → c < n → (c - 1) / 2 = i → kq q1 j1 ≤ kq q1 c from fun c c0 cn cp => by have e : c = j1 := (by have := HJ1.out; have := HJ2.out; have := HY.out; omega); rw [e]; exact Int.le_refl _)
      rw [q1_]
      clear hq q1_
      have hmSwap := meth_Swap ((blk_cell H2.out.hg 2).trans rfl : w2.cell? ⟨g, 2, none⟩ = some (.slice A q1.length c))
      go_wp2_with fail
      refine (swap_calls H2.out HIL.out HJ1L.out).mono ?_
      rintro x w3 ⟨rfl, hI, hb, hk⟩
      have HD := Aside0.mk (down_step (by rw [HL1.out]; exact HN.out) HR1.out.1 (c := j1) (by have := HJ1.out; have := HJ2.out; omega) HX.out (by have := HJ1.out; have := HJ2.out; omega) HM.out HQ.out)
      have HP3 := Aside0.mk (show (swap q1 i j1).Perm q ∧ (swap q1 i j1).drop n = q.drop n from ⟨(swap_perm HIL.out HJ1L.out).trans HP1.out.1, (swap_drop (by have := HX.out; have := HJ1.out; omega) HX.out).trans HP1.out.2⟩)
      have H3 := Aside0.mk hI; have B3 := Aside0.mk (B2.out.trans hb); have K3 := Aside0.mk (K2.out.then_ hk (fun k hk => .inl hk))
      clear hI hb hk
      have HIJ := Aside0.mk (show i < j1 ∧ i0 ≤ i by have := HJ1.out; have := HJ2.out; rcases HR1.out.2 with ⟨h, _⟩ | ⟨h, _⟩ <;> omega)
      go_wp2_with fail
      go_roundg (n + i0 + 1 - j1)
      case measure => have := HK.out.1; have := HK.out.2; have := HIJ.out; omega
      case rel => exact ⟨j1, swap q1 i j1, rfl, ⟨by have := HK.out; have := HIJ.out; have := (show j1 < n from HX.out); omega, Nat.le_of_lt HX.out⟩, H3, ⟨HD.out.1, Or.inr ⟨by have := HIJ.out; omega, HX.out, HD.out.2⟩⟩, HP3, B3, K3⟩
    have t1 : decide ((j2 : Int) < (n : Int)) = true := decide_eq_true (by omega)
    have t2 : decide (j2 < n) = true := decide_eq_true h2
    have t3 : (j2 < n) = True := eq_true h2
    have HY := Aside0.mk h2
    have HJ2L := Aside0.mk (show j2 < q1.length by have := HN.out; have := HL1.out; omega)
    clear h2
    have hmLess := meth_Less ((blk_cell H1.out.hg 2).trans rfl : w1.cell? ⟨g, 2, none⟩ = some (.slice A q1.length c)); have hmSwap := meth_Swap ((blk_cell H1.out.hg 2).trans rfl : w1.cell? ⟨g, 2, none⟩ = some (.slice A q1.length c))
    go_wp2_with fail
    refine (less_calls H1.out HJ2L.out HJ1L.out HT1.out).mono ?_
    rintro x w2 ⟨rfl, hb⟩
    have H2 := Aside0.mk (H1.out.below hb); have B2 := Aside0.mk (below_on B1.out HS1.out hb); have K2 := Aside0.mk (K1.out.below hb); have HS2 := Aside0.mk (Nat.le_trans HS1.out hb.size)
    clear hb H1 B1 K1 hmLess hmSwap
    by_cases hr : kq q1 j2 < kq q1 j1
    · have q2_ : decide (kq q1 j2 < kq q1 j1) = true := decide_eq_true hr
      have HZ := Aside0.mk hr
      rw [q2_]
      clear hr q2_
      have hmLess := meth_Less ((blk_cell H2.out.hg 2).trans rfl : w2.cell? ⟨g, 2, none⟩ = some (.slice A q1.length c)); have hmSwap := meth_Swap ((blk_cell H2.out.hg 2).trans rfl : w2.cell? ⟨g, 2, none⟩ = some (.slice A q1.length c))
      go_wp2_with fail
      refine (less_calls H2.out HJ2L.out HIL.out HT1.out).mono ?_
      rintro x w3 ⟨rfl, hb⟩
      have H3 := Aside0.mk (H2.out.below hb); have B3 := Aside0.mk (below_on B2.out HS2.out hb); have K3 := Aside0.mk (K2.out.below hb)
      clear hb H2 B2 K2 hmLess hmSwap
      by_cases hq : kq q1 j2 < kq q1 i
      rotate_left
      · have q1_ : decide (kq q1 j2 < kq q1 i) = false := decide_eq_false hq
        have HQ := Aside0.mk hq
        have HM := Aside0.mk (show ∀ c, 0 < c → c < n → (c - 1) / 2 = i → kq q1 j2 ≤ kq q1 c from fun c c0 cn cp => by rcases (show c = j1 ∨ c = j2 by have := HJ1.out; have := HJ2.out; omega) with e | e <;> (rw [e]; have := HZ.out; omega))
        rw [q1_]
        clear hq q1_
        have HC := Aside0.mk (show ∀ c, 0 < c → c < n → (c - 1) / 2 = i → kq q1 i ≤ kq q1 c from fun c c0 cn cp => by have := HM.out c c0 cn cp; have := HQ.out; omega)
        rcases HR1.out with ⟨hbo, ⟨hi, hq⟩ | ⟨hi, hin, hpar⟩⟩
        · subst hi
          have g1 : decide ((i : Int) > (i : Int)) = false := decide_eq_false (by omega)
          have HQ1 := Aside0.mk hq
          clear hbo hq
          go_wp2_with fail
          go_ret
          exact ⟨⟨false, q1, rfl, H3.out, HP1.out.1, HP1.out.2, fun h => by simp at h, fun _ => ⟨HQ1.out, by have h := HC.out; rw [HQ1.out] at h; exact h⟩⟩, B3.out, K3.out⟩
        have g1 : decide ((i : Int) > (i0 : Int)) = true := decide_eq_true (by omega)
        have g2 : decide ((i0 : Int) < (i : Int)) = true := decide_eq_true (by omega)
        have g3 : decide (i0 < i) = true := decide_eq_true hi
        have g4 : (i0 < i) = True := eq_true hi
        have HPAR := Aside0.mk hpar; have HIN := Aside0.mk hin; have HBO := Aside0.mk hbo
        clear hi hbo hpar hin
        go_wp2_with fail
        go_ret
        exact ⟨⟨true, q1, rfl, H3.out, HP1.out.1, HP1.out.2, fun _ => up_end (down_end HIN.out HBO.out HC.out) (Or.inr HPAR.out), fun h => by simp at h⟩, B3.out, K3.out⟩
      have q1_ : decide (kq q1 j2 < kq q1 i) = true := decide_eq_true hq
      have HQ := Aside0.mk hq
      have HM := Aside0.mk (show ∀ c, 0 < c → c < n → (c - 1) / 2 = i → kq q1 j2 ≤ kq q1 c from fun c c0 cn cp => by rcases (show c = j1 ∨ c = j2 by have := HJ1.out; have := HJ2.out; omega) with e | e <;> (rw [e]; have := HZ.out; omega))
      rw [q1_]
      clear hq q1_
      have hmSwap := meth_Swap ((blk_cell H3.out.hg 2).trans rfl : w3.cell? ⟨g, 2, none⟩ = some (.slice A q1.length c))
      go_wp2_with fail
      refine (swap_calls H3.out HIL.out HJ2L.out).mono ?_
      rintro x w4 ⟨rfl, hI, hb, hk⟩
      have HD := Aside0.mk (down_step (by rw [HL1.out]; exact HN.out) HR1.out.1 (c := j2) (by have := HJ1.out; have := HJ2.out; omega) HY.out (by have := HJ1.out; have := HJ2.out; omega) HM.out HQ.out)
      have HP3 := Aside0.mk (show (swap q1 i j2).Perm q ∧ (swap q1 i j2).drop n = q.drop n from ⟨(swap_perm HIL.out HJ2L.out).trans HP1.out.1, (swap_drop (by have := HX.out; have := HJ1.out; omega) HY.out).trans HP1.out.2⟩)
      have H4 := Aside0.mk hI; have B4 := Aside0.mk (B3.out.trans hb); have K4 := Aside0.mk (K3.out.then_ hk (fun k hk => .inl hk))
      clear hI hb hk
      have HIJ := Aside0.mk (show i < j2 ∧ i0 ≤ i by have := HJ1.out; have := HJ2.out; rcases HR1.out.2 with ⟨h, _⟩ | ⟨h, _⟩ <;> omega)
      go_wp2_with fail
      go_roundg (n + i0 + 1 - j2)
      case measure => have := HK.out.1; have := HK.out.2; have := HIJ.out; omega
      case rel => exact ⟨j2, swap q1 i j2, rfl, ⟨by have := HK.out; have := HIJ.out; have := (show j2 < n from HY.out); omega, Nat.le_of_lt HY.out⟩, H4, ⟨HD.out.1, Or.inr ⟨by have := HIJ.out; omega, HY.out, HD.out.2⟩⟩, HP3, B4, K4⟩
    have q2_ : decide (kq q1 j2 < kq q1 j1) = false := decide_eq_false hr
    have HZ := Aside0.mk hr
    rw [q2_]
    clear hr q2_
    have hmLess := meth_Less ((blk_cell H2.out.hg 2).trans rfl : w2.cell? ⟨g, 2, none⟩ = some (.slice A q1.length c)); have hmSwap := meth_Swap ((blk_cell H2.out.hg 2).trans rfl : w2.cell? ⟨g, 2, none⟩ = some (.slice A q1.length c))
    go_wp2_with fail
    refine (less_calls H2.out HJ1L.out HIL.out HT1.out).mono ?_
    rintro x w3 ⟨rfl, hb⟩
    have H3 := Aside0.mk (H2.out.below hb); have B3 := Aside0.mk (below_on B2.out HS2.out hb); have K3 := Aside0.mk (K2.out.below hb)
    clear hb H2 B2 K2 hmLess hmSwap
    by_cases hq : kq q1 j1 < kq q1 i
    rotate_left
    · have q1_ : decide (kq q1 j1 < kq q1 i) = false := decide_eq_false hq
      have HQ := Aside0.mk hq
      have HM := Aside0.mk (show ∀ c, 0 < c → c < n → (c - 1) / 2 = i → kq q1 j1 ≤ kq q1 c from fun c c0 cn cp => by rcases (show c = j1 ∨ c = j2 by have := HJ1.out; have := HJ2.out; omega) with e | e <;> (rw [e]; have := HZ.out; omega))
      rw [q1_]
      clear hq q1_
      have HC := Aside0.mk (show ∀ c, 0 < c → c < n → (c - 1) / 2 = i → kq q1 i ≤ kq q1 c from fun c c0 cn cp => by have := HM.out c c0 cn cp; have := HQ.out; omega)
      rcases HR1.out with ⟨hbo, ⟨hi, hq⟩ | ⟨hi, hin, hpar⟩⟩
      · subst hi
        have g1 : decide ((i : Int) > (i : Int)) = false := decide_eq_false (by omega)
        have HQ1 := Aside0.mk hq
        clear hbo hq
        go_wp2_with fail
        go_ret
        exact ⟨⟨false, q1, rfl, H3.out, HP1.out.1, HP1.out.2, fun h => by simp at h, fun _ => ⟨HQ1.out, by have h := HC.out; rw [HQ1.out] at h; exact h⟩⟩, B3.out, K3.out⟩
      have g1 : decide ((i : Int) > (i0 : Int)) = true := decide_eq_true (by omega)
      have g2 : decide ((i0 : Int) < (i : Int)) = true := decide_eq_true (by omega)
      have g3 : decide (i0 < i) = true := decide_eq_true hi
      have g4 : (i0 < i) = True := eq_true hi
      have HPAR := Aside0.mk hpar; have HIN := Aside0.mk hin; have HBO := Aside0.mk hbo
      clear hi hbo hpar hin
      go_wp2_with fail
      go_ret
      exact ⟨⟨true, q1, rfl, H3.out, HP1.out.1, HP1.out.2, fun _ => up_end (down_end HIN.out HBO.out HC.out) (Or.inr HPAR.out), fun h => by simp at h⟩, B3.out, K3.out⟩
    have q1_ : decide (kq q1 j1 < kq q1 i) = true := decide_eq_true hq
    have HQ := Aside0.mk hq
    have HM := Aside0.mk (show ∀ c, 0 < c → c < n → (c - 1) / 2 = i → kq q1 j1 ≤ kq q1 c from fun c c0 cn cp => by rcases (show c = j1 ∨ c = j2 by have := HJ1.out; have := HJ2.out; omega) with e | e <;> (rw [e]; have := HZ.out; omega))
    rw [q1_]
    clear hq q1_
    have hmSwap := meth_Swap ((blk_cell H3.out.hg 2).trans rfl : w3.cell? ⟨g, 2, none⟩ = some (.slice A q1.length c))
    go_wp2_with fail
    refine (swap_calls H3.out HIL.out HJ1L.out).mono ?_
    rintro x w4 ⟨rfl, hI, hb, hk⟩
    have HD := Aside0.mk (down_step (by rw [HL1.out]; exact HN.out) HR1.out.1 (c := j1) (by have := HJ1.out; have := HJ2.out; omega) HX.out (by have := HJ1.out; have := HJ2.out; omega) HM.out HQ.out)
    have HP3 := Aside0.mk (show (swap q1 i j1).Perm q ∧ (swap q1 i j1).drop n = q.drop n from ⟨(swap_perm HIL.out HJ1L.out).trans HP1.out.1, (swap_drop (by have := HX.out; have := HJ1.out; omega) HX.out).trans HP1.out.2⟩)
    have H4 := Aside0.mk hI; have B4 := Aside0.mk (B3.out.trans hb); have K4 := Aside0.mk (K3.out.then_ hk (fun k hk => .inl hk))
    clear hI hb hk
    have HIJ := Aside0.mk (show i < j1 ∧ i0 ≤ i by have := HJ1.out; have := HJ2.out; rcases HR1.out.2 with ⟨h, _⟩ | ⟨h, _⟩ <;> omega)
    go_wp2_with fail
    go_roundg (n + i0 + 1 - j1)
    case measure => have := HK.out.1; have := HK.out.2; have := HIJ.out; omega
    case rel => exact ⟨j1, swap q1 i j1, rfl, ⟨by have := HK.out; have := HIJ.out; have := (show j1 < n from HX.out); omega, Nat.le_of_lt HX.out⟩, H4, ⟨HD.out.1, Or.inr ⟨by have := HIJ.out; omega, HX.out, HD.out.2⟩⟩, HP3, B4, K4⟩
theorem le_lt_ {a b : Nat} (h : a < b) : a ≤ b := Nat.le_of_lt h
theorem IsQ.size (h : IsQ N P w g now turns m q A c) : N ≤ w.heap.size := by have := blk_lt h.hg; have := h.ng; omega
theorem take_perm {q q' : List Du} {n : Nat} (hp : q'.Perm q) (hd : q'.drop n = q.drop n) : (q'.take n).Perm (q.take n) := by
  have h1 : (q'.take n ++ q'.drop n).Perm (q.take n ++ q.drop n) := by rw [List.take_append_drop, List.take_append_drop]; exact hp
  rw [hd] at h1
  exact (List.perm_append_right_iff _).1 h1
theorem hp_take {n k : Nat} (h : Hp q n) (hk : n ≤ k) : Hp (q.take k) n := by
  intro c c0 cn
  have := h c c0 cn
  unfold kq at this ⊢
  rw [nth_take (by omega), nth_take (by omega)]
  exact this
theorem nth_drop {q q' : List Du} {n i : Nat} (hd : q'.drop n = q.drop n) (hi : n ≤ i) : nth q' i = nth q i := by
  unfold nth
  simp only [List.getD_eq_getElem?_getD]
  have h1 : q'[i]? = (q'.drop n)[i - n]? := by rw [List.getElem?_drop]; congr 1; omega
  have h2 : q[i]? = (q.drop n)[i - n]? := by rw [List.getElem?_drop]; congr 1; omega
  rw [h1, h2, hd]
set_option maxHeartbeats 8000000 in
set_option maxRecDepth 100000 in
theorem fix_calls {i : Nat} (h : IsQ N P w g now turns m q A c) (hi : i < q.length) (hb : HBo q q.length i) (ht : TOk q) (hl : q.length ≤ 4097) :
    Calls Try.prog 20 #[.iface 65 (.pointer (some ⟨g, 2, none⟩)), .int .i64 (i : Int)] w fun e w' => e = .returned (.tuple #[]) ∧ (∃ q', IsQ N P w' g now turns m q' A c ∧ q'.Perm q ∧ Hp q' q'.length) ∧ Below N w w' ∧ Kept w w' P := by
  have H := Aside0.mk h; have HI := Aside0.mk hi; have HB := Aside0.mk hb; have HT := Aside0.mk ht; have HL := Aside0.mk hl
  have hmLen := meth_Len ((blk_cell h.hg 2).trans rfl : w.cell? ⟨g, 2, none⟩ = some (.slice A q.length c))
  clear h hi hb ht hl
  go_enter Try.func20, Try.ntmps20
  go_wp2_with fail
  refine len_calls.mono ?_
  rintro x w1 ⟨rfl, hb⟩
  have H1 := Aside0.mk (H.out.below hb); have B1 := Aside0.mk (below_on (Below.refl N w) H.out.size hb); have K1 := Aside0.mk ((Kept.refl w P).below hb)
  clear hb hmLen
  go_wp2_with fail
  refine (down_calls H1.out (Nat.le_refl _) HB.out (le_lt_ HI.out) HT.out HL.out).mono ?_
  rintro x w2 ⟨⟨b, q2, rfl, hI, hp, hd, hy, hn⟩, hb, hk⟩
  have H2 := Aside0.mk hI; have B2 := Aside0.mk (B1.out.trans hb); have K2 := Aside0.mk (K1.out.then_ hk (fun k hk => .inl hk)); have HP := Aside0.mk hp; have HY := Aside0.mk hy; have HN := Aside0.mk hn
  clear hI hp hd hy hn hb hk
  cases b
  · obtain ⟨e2, hc⟩ := HN.out rfl
    subst e2
    have HC := Aside0.mk hc
    clear HN HY hc
    go_wp2_with fail
    refine (up_calls H2.out (Nat.le_refl _) (down_end HI.out HB.out HC.out) HT.out HL.out).mono ?_
    rintro x w3 ⟨rfl, ⟨q3, hI, hp, hh, hd⟩, hb, hk⟩
    have H3 := Aside0.mk hI; have B3 := Aside0.mk (B2.out.trans hb); have K3 := Aside0.mk (K2.out.then_ hk (fun k hk => .inl hk)); have HP3 := Aside0.mk hp; have HH := Aside0.mk hh
    clear hI hp hd hb hk hh
    go_wp2_with fail
    go_end0
    exact ⟨rfl, ⟨q3, H3.out, HP3.out, by rw [HP3.out.length_eq]; exact HH.out⟩, B3.out, K3.out⟩
  · have hh := HY.out rfl
    have HH := Aside0.mk hh
    clear HN HY hh
    go_wp2_with fail
    go_end0
    exact ⟨rfl, ⟨q2, H2.out, HP.out, by rw [HP.out.length_eq]; exact HH.out⟩, B2.out, K2.out⟩
set_option maxHeartbeats 8000000 in
set_option maxRecDepth 100000 in
theorem push_calls {x : Du} {pl : Int} (h : IsQ N P w g now turns m q A c) (hx : w.heap[x.bk]? = some (.cells #[.string x.nm, .int .i64 x.at_, .int .i64 x.tn, .int .i64 pl] 63 (0, 0))) (hN : N ≤ x.bk) (hP : P x.bk) (hne : ∀ i, i < q.length → (nth q i).bk ≠ x.bk) (hh : Hp q q.length) (ht : TOk (q ++ [x])) (hl : q.length ≤ 4096) :
    Calls Try.prog 21 #[.iface 65 (.pointer (some ⟨g, 2, none⟩)), .iface 60 (.pointer (some ⟨x.bk, 0, none⟩))] w fun e w' => e = .returned (.tuple #[]) ∧ (∃ q' A' c', IsQ N (fun k => P k ∨ w.heap.size ≤ k) w' g now turns m q' A' c' ∧ q'.Perm (q ++ [x]) ∧ Hp q' q'.length) ∧ Below N w w' ∧ Kept w w' P := by
  have hmPush := meth_Push (g := g) (w := w)
  have H := Aside0.mk h; have HX := Aside0.mk hx; have HNX := Aside0.mk hN; have HPX := Aside0.mk hP; have HNE := Aside0.mk hne; have HH := Aside0.mk hh; have HT := Aside0.mk ht; have HL := Aside0.mk hl
  clear h hx hN hP hne hh ht hl
  go_enter Try.func21, Try.ntmps21
  go_wp2_with fail
  refine (qpush_calls H.out HX.out HNX.out HPX.out HNE.out HL.out).mono ?_
  rintro y w1 ⟨rfl, ⟨A1, c1, hI⟩, hb, hk⟩
  have H1 := Aside0.mk hI; have B1 := Aside0.mk hb; have K1 := Aside0.mk hk
  have hmLen := meth_Len ((blk_cell hI.hg 2).trans rfl : w1.cell? ⟨g, 2, none⟩ = some (.slice A1 (q ++ [x]).length c1))
  clear hI hb hk hmPush
  go_wp2_with fail
  refine len_calls.mono ?_
  rintro y w2 ⟨rfl, hb⟩
  have H2 := Aside0.mk (H1.out.below hb); have B2 := Aside0.mk (below_on B1.out H1.out.size hb); have K2 := Aside0.mk (K1.out.below hb)
  have b1 : wrap64 (((q.length + 1 : Nat) : Int) - 1) = (q.length : Int) := by have := HL.out; unfold wrap64; omega
  have b2 : wrap64 ((q.length : Int) + 1 - 1) = (q.length : Int) := by have := HL.out; unfold wrap64; omega
  have b3 : wrap64 (q.length : Int) = (q.length : Int) := by have := HL.out; unfold wrap64; omega
  have HU := Aside0.mk (show HUp (q ++ [x]) (q ++ [x]).length q.length from by
    have := up_start (q := q ++ [x]) (n := (q ++ [x]).length) (by simp) (by
      have e : (q ++ [x]).length - 1 = q.length := by simp
      rw [e]
      intro c c0 cn
      have := HH.out c c0 cn
      unfold kq at this ⊢
      rw [nth_snoc, nth_snoc, if_pos (by omega), if_pos cn]
      exact this)
    have e : (q ++ [x]).length - 1 = q.length := by simp
    rw [e] at this
    exact this)
  have HLQ := Aside0.mk (show (q ++ [x]).length ≤ 4097 by have := HL.out; simp; omega)
  clear hb hmLen H1 B1 K1
  go_wp2_with fail
  refine (up_calls H2.out (Nat.le_refl _) HU.out HT.out HLQ.out).mono ?_
  rintro y w3 ⟨rfl, ⟨q3, hI, hp, hh, hd⟩, hb, hk⟩
  have H3 := Aside0.mk hI; have B3 := Aside0.mk (B2.out.trans hb); have K3 := Aside0.mk (K2.out.then_ hk (fun k hk => hk)); have HP3 := Aside0.mk hp; have HH3 := Aside0.mk hh
  clear hI hp hd hb hk hh
  go_wp2_with fail
  go_end0
  exact ⟨rfl, ⟨q3, A1, c1, H3.out, HP3.out, by rw [HP3.out.length_eq]; exact HH3.out⟩, B3.out, K3.out⟩
end Go.Proofs.Ytdodaepdghlolaa.Pure.Clk
