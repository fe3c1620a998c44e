/-
  (link.Links).Packets: all that a node hasn't heard, or a packet without anything.
-/
import Derived.Test.YthgdojaildccaaaOLink3
namespace Go.Proofs.Ythgdojaildccaaa.M
open Go.RowKit Go.Proofs.YthgdojaildccaaaW.PrintWords Go.Proofs.YthgdojaildccaaaW.PrintLast Go.Proofs.YthgdojaildccaaaW.PrintMore
set_option linter.unusedVariables false
set_option linter.unusedSimpArgs false
theorem info37__ : (Try.prog.info? 37).map (fun i => (i.zero, i.size, i.bytes)) = some (some (.agg #[.int .i64 0, .int .i64 0, .int .i64 0, .int .i64 0, .int .i64 0, .int .i64 0, .int .i64 0, .int .i64 0, .int .i64 0, .int .i64 0, .int .i64 0, .int .i64 0, .bool false, .slice none 0 0, .slice none 0 0]), 15, 152) := by kernel_rfl
attribute [local go_sem] max2_int min2_int max_two min_two
def pkFrom (me t h : Int) (ms : List S35) (k : Nat) : List S37 := ms.mapIdx (fun j m => ⟨me, t, ((k + j + 1 : Nat) : Int), h, m⟩)
/-- what is sent to node t, of which s is told, and which has heard k -/
def packL (me t : Int) (s : S64) (k : Nat) : List S37 := if k < s.f0.length then pkFrom me t s.f1 (s.f0.drop k) k else [⟨me, t, 0, s.f1, z35⟩]
theorem pkFrom_len (me t h : Int) (ms : List S35) (k : Nat) : (pkFrom me t h ms k).length = ms.length := by simp [pkFrom]
theorem pkFrom_next {me t h : Int} {ms : List S35} {k n : Nat} (hk : k ≤ n) (hn : n < ms.length) : pkFrom me t h ((ms.take (n + 1)).drop k) k = pkFrom me t h ((ms.take n).drop k) k ++ [⟨me, t, ((n + 1 : Nat) : Int), h, ms[n]⟩] := by
  have e : (ms.take (n + 1)).drop k = (ms.take n).drop k ++ [ms[n]] := by
    rw [← List.take_append_getElem hn, List.drop_append_of_le_length (by rw [List.length_take]; omega)]
  unfold pkFrom
  rw [e, List.mapIdx_append]
  congr 1
  simp only [List.mapIdx_cons, List.mapIdx_nil, List.length_drop, List.length_take]
  congr 3
  omega
theorem nkP {k n L gk : Nat} (hi : n < L) (h : k ≤ n ∧ (n ≤ L ∨ n = k) ∧ L - n + 1 = gk) : (k ≤ n + 1 ∧ (n + 1 ≤ L ∨ n + 1 = k) ∧ L - (n + 1) + 1 = gk - 1) ∧ 0 < gk := by omega
theorem nkL {n d L : Nat} (hL : L ≤ 4096) : min n L - d + 1 ≤ 8192 := by omega
theorem rd35_at {l : List S35} {i : Nat} (h : i < l.length) : rd_T35 l (i : Int) = l[i] := by simp [rd_T35, h]
theorem below_gn_ {W w1 : World} (h : W.grownBy w1 none) : Below W.heap.size W w1 := ⟨h.os, h.tape, h.output, h.size, fun k hk => h.block k hk (by simp)⟩
theorem below_drew1_ {w : World} : Below w.heap.size w w.drew := below_drew (Below.refl _ _)
set_option maxHeartbeats 8000000 in
set_option maxRecDepth 100000 in
theorem links_Packets_bad {A : Option Addr} {n c : Nat} {me to_ hd : Int} {l : List S64} {w : World} (hn : n = l.length) (hC : Kd.C k64 w A l.length l) (hc : l.length ≤ c) (h : ¬(0 ≤ to_ ∧ to_ < l.length ∧ to_ ≠ me)) :
    Calls Try.prog 21 #[.agg #[.int .i64 me, .slice A n c], .int .i64 to_, .int .i64 hd] w fun x w' => x = .returned (.slice none 0 0) ∧ Below w.heap.size w w' := by
  have B0 := Aside0.mk (Below.refl w.heap.size w)
  subst hn
  have HC := Aside0.mk hC; have HO := Aside0.mk (other_no h)
  clear hC h
  go_enter Try.func21, Try.ntmps21
  go_wp2_with (first | ((with_reducible refine gate_dst (N := 3) rfl ?_); refine box_event ?hg (N := 3) ?hd (cs := #[.int .i64 me, .slice A l.length c]) (t := 55) ?hr ?_; (case hd => rfl); (case hg => rfl); (case hr => first | (go_simp; done) | (go_simp; rfl)); intro g3 hg w1 hbox hb; have B1 := Aside0.mk (below_step B0.out hb); have P1 := Aside0.mk hbox; have xc0 : w1.cell? ⟨g3, 0, none⟩ = some (.int .i64 me) := (blk_cell P1.out 0).trans rfl; have xf0 := blk_frozen P1.out 0; have xc1 : w1.cell? ⟨g3, 1, none⟩ = some (.slice A l.length c) := (blk_cell P1.out 1).trans rfl; have xf1 := blk_frozen P1.out 1; clear hb hg hbox))
  refine (link_Links_other.calls me A c l to_ _ w1 (Kd.C_below HC.out B1.out) hc HO.out).mono ?_; rintro x w4 ⟨rfl, hb⟩; have B4 := Aside0.mk (below_step B1.out hb); clear hb
  go_wp2_with fail
  go_ret
  exact ⟨rfl, B4.out⟩
set_option maxHeartbeats 8000000 in
set_option maxRecDepth 100000 in
theorem links_Packets {t k : Nat} {A : Option Addr} {n c : Nat} {me hd : Int} {l : List S64} {w : World} (hn : n = l.length) (hC : Kd.C k64 w A l.length l) (hc : l.length ≤ c) (hf : FitL l) (ht : t < l.length) (hne : (t : Int) ≠ me) (hk : mx 0 hd = (k : Int)) (hm : ∀ m ∈ (rd_T64 l (t : Int)).f0, FitM m) :
    Calls Try.prog 21 #[.agg #[.int .i64 me, .slice A n c], .int .i64 (t : Int), .int .i64 hd] w fun x w' => ∃ v, x = .returned v ∧ Kd.R k37 37 w' w.heap.size (fun _ => True) v (packL me t (rd_T64 l (t : Int)) k) ∧ Below w.heap.size w w' := by
  have B0 := Aside0.mk (Below.refl w.heap.size w)
  subst hn
  have HC := Aside0.mk hC; have HO := Aside0.mk (other_yes ht hne); have HT := Aside0.mk ht
  have hi0 : (0 : Int) ≤ (t : Int) := by omega
  have hi1 : (t : Int) < (l.length : Int) := by omega
  obtain ⟨ad0, A0, c0, ea, y0, y1, l0, g0⟩ := at_T64 hC (t : Int) hi0 hi1
  subst ea
  rw [Int.toNat_natCast] at y0 y1
  obtain ⟨s, hs⟩ : ∃ s, s = rd_T64 l (t : Int) := ⟨_, rfl⟩
  have hsl := (hf.2 _ (rd_mem64 ht)).1
  rw [← hs] at y0 y1 l0 g0 hm hsl ⊢
  have HKM := Aside0.mk (show (if 0 < hd then hd else 0) = (k : Int) from hk); have Y0 := Aside0.mk y0; have Y1 := Aside0.mk y1; have GS := Aside0.mk g0; have HM := Aside0.mk hm; have SL := Aside0.mk hsl
  have q1 := eq_true hi0; have q2 := eq_true hi1; have q3 : decide ((0 : Int) ≤ (t : Int)) = true := decide_eq_true hi0
  clear hC hf ht hne hk hm hs hsl g0 l0 hi0 hi1 y0 y1
  go_enter Try.func21, Try.ntmps21
  go_wp2_with (first | ((with_reducible refine gate_dst (N := 3) rfl ?_); refine box_event ?hg (N := 3) ?hd (cs := #[.int .i64 me, .slice (some ad0) l.length c]) (t := 55) ?hr ?_; (case hd => rfl); (case hg => rfl); (case hr => first | (go_simp; done) | (go_simp; rfl)); intro g3 hg w1 hbox hb; have B1 := Aside0.mk (below_step B0.out hb); have P1 := Aside0.mk hbox; have xc0 : w1.cell? ⟨g3, 0, none⟩ = some (.int .i64 me) := (blk_cell P1.out 0).trans rfl; have xf0 := blk_frozen P1.out 0; have xc1 : w1.cell? ⟨g3, 1, none⟩ = some (.slice (some ad0) l.length c) := (blk_cell P1.out 1).trans rfl; have xf1 := blk_frozen P1.out 1; clear hb hg hbox))
  refine (link_Links_other.calls me (some ad0) c l t _ w1 (Kd.C_below HC.out B1.out) hc HO.out).mono ?_; rintro x w4 ⟨rfl, hb⟩; have B4 := Aside0.mk (below_step B1.out hb); have P4 := Aside0.mk (blk_below P1.out hb); have z0 := cell_bel2 Y0.out B4.out; have z1 := cell_bel2 Y1.out B4.out; clear hb P1 xc0 xf0 xc1 xf1
  have xc0 : w4.cell? ⟨g3, 0, none⟩ = some (.int .i64 me) := (blk_cell P4.out 0).trans rfl; have xf0 := blk_frozen P4.out 0; have xc1 : w4.cell? ⟨g3, 1, none⟩ = some (.slice (some ad0) l.length c) := (blk_cell P4.out 1).trans rfl; have xf1 := blk_frozen P4.out 1
  go_wp2_with (first | ((with_reducible refine gate_dst (N := 7) rfl ?_); refine box_event ?hg (N := 7) ?hd (cs := #[.slice none 0 0, .int .i64 0]) (t := 64) ?hr ?_; (case hd => rfl); (case hg => rfl); (case hr => first | (go_simp; done) | (go_simp; rfl)); intro g7 hg w5m hbox hb; have ZB := Aside0.mk hb; have ZX := Aside0.mk hbox; have X5g := Aside0.mk (show w4.heap.size ≤ g7 from by rw [hg]; exact Nat.le_refl _); have y_zc0 : w5m.cell? ⟨g7, 0, none⟩ = some (.slice none 0 0) := (blk_cell ZX.out 0).trans rfl; have y_zf0 := blk_frozen ZX.out 0; have y_zc1 : w5m.cell? ⟨g7, 1, none⟩ = some (.int .i64 0) := (blk_cell ZX.out 1).trans rfl; have y_zf1 := blk_frozen ZX.out 1; clear hb hg hbox) | ((with_reducible refine gate_dst (N := 20) rfl ?_); have NB5 := Aside0.mk (below_setB (below_setB ZB.out (p := ⟨g7, 0, none⟩) X5g.out (.slice A0 s.f0.length c0)) (p := ⟨g7, 1, none⟩) X5g.out (.int .i64 s.f1)); have X5 := Aside0.mk (blk_put (blk_put ZX.out 0 (.slice A0 s.f0.length c0) (cs' := #[.slice A0 s.f0.length c0, .int .i64 0]) rfl) 1 (.int .i64 s.f1) (cs' := #[.slice A0 s.f0.length c0, .int .i64 s.f1]) rfl); clear ZB ZX y_zc0 y_zf0 y_zc1 y_zf1; generalize ((w5m.setCell ⟨g7, 0, none⟩ (.slice A0 s.f0.length c0)).setCell ⟨g7, 1, none⟩ (.int .i64 s.f1)) = w5 at NB5 X5 ⊢; have B5 := Aside0.mk (below_step B4.out NB5.out); have P5 := Aside0.mk (blk_below P4.out NB5.out); have b2 := HKM.out; refine Kd.event_run (W := w5) (w1 := w5) (v := .int .i64 (k : Int)) ?hg ?hr ?_; (case hg => rfl); (case hr => first | (go_simp; done) | (go_simp; intro hz_; omega) | (go_simp; omega)); clear b2))
  clear xc0 xf0 xc1 xf1 z0 z1 q1 q2 q3
  go_loopg [8, 9] (s.f0.length - k + 1) (fun kq v8 v9 w' => ∃ (n : Nat), v9 = .int .i64 (n : Int) ∧ Aside0 (k ≤ n ∧ (n ≤ s.f0.length ∨ n = k) ∧ s.f0.length - n + 1 = kq) ∧ Aside0 (Kd.R k37 37 w' w5.heap.size (fun _ => True) v8 (pkFrom me t s.f1 ((s.f0.take n).drop k) k)) ∧ Aside0 (Below w5.heap.size w5 w'))
  case atStart => exact ⟨k, rfl, ⟨Nat.le_refl _, .inr rfl, rfl⟩, ⟨by rw [List.drop_eq_nil_of_le (by rw [List.length_take]; omega)]; exact Kd.R_nil _ _ _ _ _⟩, ⟨Below.refl _ _⟩⟩
  case round =>
    obtain ⟨n, rfl, HN, O6, BW⟩ := hrel
    obtain ⟨A6, c6, e6⟩ := Kd.R_slice O6.out
    subst e6
    have P6 := Aside0.mk (blk_below P5.out BW.out); have X6 := Aside0.mk (blk_below X5.out BW.out); have B6 := Aside0.mk (below_step B5.out BW.out)
    have yc0 : wr.cell? ⟨g7, 0, none⟩ = some (.slice A0 s.f0.length c0) := (blk_cell X6.out 0).trans rfl; have yf0 := blk_frozen X6.out 0; have yc1 : wr.cell? ⟨g7, 1, none⟩ = some (.int .i64 s.f1) := (blk_cell X6.out 1).trans rfl; have yf1 := blk_frozen X6.out 1
    by_cases hi : n < s.f0.length
    · have d1 : decide ((n : Int) < (s.f0.length : Int)) = true := decide_eq_true (by omega)
      have d2 : decide (n < s.f0.length) = true := decide_eq_true hi
      have d3 : (n < s.f0.length) = True := eq_true hi
      have hi0 : (0 : Int) ≤ (n : Int) := by omega
      have hi1 : (n : Int) < (s.f0.length : Int) := by omega
      obtain ⟨ad, A8, C8, A9, C9, ea, x0, x1, x2, x3, x4, x5, x6, x7, x8, x9, x10, l8, g8, l9, g9⟩ := at_T35 GS.out (n : Int) hi0 hi1
      have hfit := HM.out _ (show rd_T35 s.f0 (n : Int) ∈ s.f0 by rw [rd35_at hi]; exact List.getElem_mem _)
      have hnx := pkFrom_next (me := me) (t := t) (h := s.f1) HN.out.1 hi
      rw [← rd35_at hi] at hnx
      subst ea
      obtain ⟨m, hq⟩ : ∃ m, m = rd_T35 s.f0 (n : Int) := ⟨_, rfl⟩
      rw [← hq] at x0 x1 x2 x3 x4 x5 x6 x7 x8 x9 x10 l8 g8 l9 g9 hfit hnx
      rw [Int.toNat_natCast] at x0 x1 x2 x3 x4 x5 x6 x7 x8 x9 x10
      obtain ⟨OL, hOL⟩ : ∃ OL, OL = pkFrom me t s.f1 ((s.f0.take n).drop k) k := ⟨_, rfl⟩
      rw [← hOL] at hnx O6
      have HOLl := Aside0.mk (show OL.length + 1 ≤ 8192 by rw [hOL, pkFrom_len, List.length_drop, List.length_take]; exact nkL SL.out)
      have hll : (pkFrom me t s.f1 ((s.f0.take n).drop k) k).length = OL.length := by rw [hOL]
      simp only [hll]
      have EX := Aside0.mk (show _ from (⟨x0, x1, x2, x3, x4, x5, x6, x7, x8, x9, x10⟩ : (w.cell? (ad.add (n * 11)) = some (.int .i64 m.f0)) ∧ (w.cell? ⟨(ad.add (n * 11)).block, (ad.add (n * 11)).off + 1, none⟩ = some (.int .i64 m.f1.f0)) ∧ (w.cell? ⟨(ad.add (n * 11)).block, (ad.add (n * 11)).off + 2, none⟩ = some (.int .i64 m.f1.f1)) ∧ (w.cell? ⟨(ad.add (n * 11)).block, (ad.add (n * 11)).off + 3, none⟩ = some (.int .i64 m.f2)) ∧ (w.cell? ⟨(ad.add (n * 11)).block, (ad.add (n * 11)).off + 4, none⟩ = some (.int .i64 m.f3)) ∧ (w.cell? ⟨(ad.add (n * 11)).block, (ad.add (n * 11)).off + 5, none⟩ = some (.int .i64 m.f4)) ∧ (w.cell? ⟨(ad.add (n * 11)).block, (ad.add (n * 11)).off + 6, none⟩ = some (.int .i64 m.f5)) ∧ (w.cell? ⟨(ad.add (n * 11)).block, (ad.add (n * 11)).off + 7, none⟩ = some (.int .i64 m.f6)) ∧ (w.cell? ⟨(ad.add (n * 11)).block, (ad.add (n * 11)).off + 8, none⟩ = some (.bool m.f7)) ∧ (w.cell? ⟨(ad.add (n * 11)).block, (ad.add (n * 11)).off + 9, none⟩ = some (.slice A8 m.f8.length C8)) ∧ (w.cell? ⟨(ad.add (n * 11)).block, (ad.add (n * 11)).off + 10, none⟩ = some (.slice A9 m.f9.length C9)))); have G8 := Aside0.mk g8; have G9 := Aside0.mk g9; have FT := Aside0.mk hfit; have HNX := Aside0.mk hnx
      have b1 : wrap64 ((n : Int) + 1) = ((n + 1 : Nat) : Int) := by have := SL.out; unfold wrap64; omega
      have q1 := eq_true hi0; have q2 := eq_true hi1; have q3 : decide ((0 : Int) ≤ (n : Int)) = true := decide_eq_true hi0
      have NK := Aside0.mk (nkP hi HN.out)
      clear hi hi0 hi1 g8 g9 hfit hnx hq l8 l9 hOL hll x0 x1 x2 x3 x4 x5 x6 x7 x8 x9 x10
      go_wp2_with fail
      refine start_ (n := 18) (S := fun w' => w'.cell? ⟨g3, 0, none⟩ = some (.int .i64 me) ∧ w'.cell? ⟨g7, 0, none⟩ = some (.slice (some ad) s.f0.length c0) ∧ w'.cell? ⟨g7, 1, none⟩ = some (.int .i64 s.f1) ∧ w'.cell? (ad.add (n * 11)) = some (.int .i64 m.f0) ∧ w'.cell? ⟨(ad.add (n * 11)).block, (ad.add (n * 11)).off + 1, none⟩ = some (.int .i64 m.f1.f0) ∧ w'.cell? ⟨(ad.add (n * 11)).block, (ad.add (n * 11)).off + 2, none⟩ = some (.int .i64 m.f1.f1) ∧ w'.cell? ⟨(ad.add (n * 11)).block, (ad.add (n * 11)).off + 3, none⟩ = some (.int .i64 m.f2) ∧ w'.cell? ⟨(ad.add (n * 11)).block, (ad.add (n * 11)).off + 4, none⟩ = some (.int .i64 m.f3) ∧ w'.cell? ⟨(ad.add (n * 11)).block, (ad.add (n * 11)).off + 5, none⟩ = some (.int .i64 m.f4) ∧ w'.cell? ⟨(ad.add (n * 11)).block, (ad.add (n * 11)).off + 6, none⟩ = some (.int .i64 m.f5) ∧ w'.cell? ⟨(ad.add (n * 11)).block, (ad.add (n * 11)).off + 7, none⟩ = some (.int .i64 m.f6) ∧ w'.cell? ⟨(ad.add (n * 11)).block, (ad.add (n * 11)).off + 8, none⟩ = some (.bool m.f7) ∧ w'.cell? ⟨(ad.add (n * 11)).block, (ad.add (n * 11)).off + 9, none⟩ = some (.slice A8 m.f8.length C8) ∧ w'.cell? ⟨(ad.add (n * 11)).block, (ad.add (n * 11)).off + 10, none⟩ = some (.slice A9 m.f9.length C9)) (ds := [15, 16]) #[false, false, false, false, false, false, false, false, false, false, false, false, false, false, false, false, false, false] (by kernel_rfl) rfl rfl ⟨(blk_cell (blk_drew P6.out) 0).trans rfl, (blk_cell (blk_drew X6.out) 0).trans rfl, (blk_cell (blk_drew X6.out) 1).trans rfl, cell_bel2 EX.out.1 (below_drew B6.out), cell_bel2 EX.out.2.1 (below_drew B6.out), cell_bel2 EX.out.2.2.1 (below_drew B6.out), cell_bel2 EX.out.2.2.2.1 (below_drew B6.out), cell_bel2 EX.out.2.2.2.2.1 (below_drew B6.out), cell_bel2 EX.out.2.2.2.2.2.1 (below_drew B6.out), cell_bel2 EX.out.2.2.2.2.2.2.1 (below_drew B6.out), cell_bel2 EX.out.2.2.2.2.2.2.2.1 (below_drew B6.out), cell_bel2 EX.out.2.2.2.2.2.2.2.2.1 (below_drew B6.out), cell_bel2 EX.out.2.2.2.2.2.2.2.2.2.1 (below_drew B6.out), cell_bel2 EX.out.2.2.2.2.2.2.2.2.2.2 (below_drew B6.out)⟩ (fun hHeld => ?_)
      refine pure_ (i := 0) (N := some 28) (v := ?_) (a' := ?_) #[true, false, false, false, false, false, false, false, false, false, false, false, false, false, false, false, false, false] rfl rfl (by kernel_rfl) (fun _ _ _ h => h) (Or.inl ⟨by rfl, ?_⟩) ?_ ?_
      rotate_left
      · intro w'
        go_simp
        with_reducible rfl
      rotate_left
      · simp only [Act.put, List.setIfInBounds_toArray, List.set_cons_zero, List.set_cons_succ, i64_w, i32_w]
        rfl
      refine pure_ (i := 1) (N := some 29) (v := ?_) (a' := ?_) #[true, true, false, false, false, false, false, false, false, false, false, false, false, false, false, false, false, false] rfl rfl (by kernel_rfl) (fun _ _ _ h => h) (Or.inl ⟨by rfl, ?_⟩) ?_ ?_
      rotate_left
      · intro w'
        go_simp
        with_reducible rfl
      rotate_left
      · simp only [Act.put, List.setIfInBounds_toArray, List.set_cons_zero, List.set_cons_succ, i64_w, i32_w]
        rfl
      refine pure_ (i := 3) (N := some 31) (v := ?_) (a' := ?_) #[true, true, false, true, false, false, false, false, false, false, false, false, false, false, false, false, false, false] rfl rfl (by kernel_rfl) (fun _ _ _ h => h) (Or.inl ⟨by rfl, ?_⟩) ?_ ?_
      rotate_left
      · intro w'
        go_simp
        with_reducible rfl
      rotate_left
      · simp only [Act.put, List.setIfInBounds_toArray, List.set_cons_zero, List.set_cons_succ, i64_w, i32_w]
        rfl
      refine pure_ (i := 4) (N := some 32) (v := ?_) (a' := ?_) #[true, true, false, true, true, false, false, false, false, false, false, false, false, false, false, false, false, false] rfl rfl (by kernel_rfl) (fun _ _ _ h => h) (Or.inl ⟨by rfl, ?_⟩) ?_ ?_
      rotate_left
      · intro w'
        go_simp
        with_reducible rfl
      rotate_left
      · simp only [Act.put, List.setIfInBounds_toArray, List.set_cons_zero, List.set_cons_succ, i64_w, i32_w]
        rfl
      refine pure_ (i := 5) (N := some 33) (v := ?_) (a' := ?_) #[true, true, false, true, true, true, false, false, false, false, false, false, false, false, false, false, false, false] rfl rfl (by kernel_rfl) (fun _ _ _ h => h) (Or.inl ⟨by rfl, ?_⟩) ?_ ?_
      rotate_left
      · intro w'
        go_simp
        with_reducible rfl
      rotate_left
      · simp only [Act.put, List.setIfInBounds_toArray, List.set_cons_zero, List.set_cons_succ, i64_w, i32_w]
        rfl
      refine pure_ (i := 6) (N := some 34) (v := ?_) (a' := ?_) #[true, true, false, true, true, true, true, false, false, false, false, false, false, false, false, false, false, false] rfl rfl (by kernel_rfl) (fun _ _ _ h => h) (Or.inl ⟨by rfl, ?_⟩) ?_ ?_
      rotate_left
      · intro w'
        go_simp
        with_reducible rfl
      rotate_left
      · simp only [Act.put, List.setIfInBounds_toArray, List.set_cons_zero, List.set_cons_succ, i64_w, i32_w]
        rfl
      refine pure_ (i := 8) (N := some 36) (v := ?_) (a' := ?_) #[true, true, false, true, true, true, true, false, true, false, false, false, false, false, false, false, false, false] rfl rfl (by kernel_rfl) (fun _ _ _ h => h) (Or.inl ⟨by rfl, ?_⟩) ?_ ?_
      rotate_left
      · intro w'
        go_simp
        with_reducible rfl
      rotate_left
      · simp only [Act.put, List.setIfInBounds_toArray, List.set_cons_zero, List.set_cons_succ, i64_w, i32_w]
        rfl
      refine pure_ (i := 10) (N := some 38) (v := ?_) (a' := ?_) #[true, true, false, true, true, true, true, false, true, false, true, false, false, false, false, false, false, false] rfl rfl (by kernel_rfl) (fun _ _ _ h => h) (Or.inl ⟨by rfl, ?_⟩) ?_ ?_
      rotate_left
      · intro w'
        go_simp
        with_reducible rfl
      rotate_left
      · simp only [Act.put, List.setIfInBounds_toArray, List.set_cons_zero, List.set_cons_succ, i64_w, i32_w]
        rfl
      refine take_ (i := 2) (N := some 30) (v := ?_) (a' := ?_) #[true, true, true, true, true, true, true, false, true, false, true, false, false, false, false, false, false, false] rfl rfl (by kernel_rfl) (fun _ _ _ h => h) (Or.inl ⟨by rfl, ?_⟩) hHeld ?_ ?_
      rotate_left
      · rintro w' ⟨s0, s1, s2, s3, s4, s5, s6, s7, s8, s9, s10, s11, s12, s13⟩
        go_simp
        with_reducible rfl
      rotate_left
      · simp only [Act.put, List.setIfInBounds_toArray, List.set_cons_zero, List.set_cons_succ, i64_w, i32_w]
        rfl
      refine take_ (i := 7) (N := some 35) (v := ?_) (a' := ?_) #[true, true, true, true, true, true, true, true, true, false, true, false, false, false, false, false, false, false] rfl rfl (by kernel_rfl) (fun _ _ _ h => h) (Or.inl ⟨by rfl, ?_⟩) hHeld ?_ ?_
      rotate_left
      · rintro w' ⟨s0, s1, s2, s3, s4, s5, s6, s7, s8, s9, s10, s11, s12, s13⟩
        go_simp
        with_reducible rfl
      rotate_left
      · simp only [Act.put, List.setIfInBounds_toArray, List.set_cons_zero, List.set_cons_succ, i64_w, i32_w]
        rfl
      refine take_ (i := 9) (N := some 37) (v := ?_) (a' := ?_) #[true, true, true, true, true, true, true, true, true, true, true, false, false, false, false, false, false, false] rfl rfl (by kernel_rfl) (fun _ _ _ h => h) (Or.inl ⟨by rfl, ?_⟩) hHeld ?_ ?_
      rotate_left
      · rintro w' ⟨s0, s1, s2, s3, s4, s5, s6, s7, s8, s9, s10, s11, s12, s13⟩
        go_simp
        with_reducible rfl
      rotate_left
      · simp only [Act.put, List.setIfInBounds_toArray, List.set_cons_zero, List.set_cons_succ, i64_w, i32_w]
        rfl
      refine pure_ (i := 11) (N := some 39) (v := ?_) (a' := ?_) #[true, true, true, true, true, true, true, true, true, true, true, true, false, false, false, false, false, false] rfl rfl (by kernel_rfl) (fun _ _ _ h => h) (Or.inl ⟨by rfl, ?_⟩) ?_ ?_
      rotate_left
      · intro w'
        go_simp
        with_reducible rfl
      rotate_left
      · simp only [Act.put, List.setIfInBounds_toArray, List.set_cons_zero, List.set_cons_succ, i64_w, i32_w]
        rfl
      refine take_ (i := 12) (N := some 40) (v := ?_) (a' := ?_) #[true, true, true, true, true, true, true, true, true, true, true, true, true, false, false, false, false, false] rfl rfl (by kernel_rfl) (fun _ _ _ h => h) (Or.inl ⟨by rfl, ?_⟩) hHeld ?_ ?_
      rotate_left
      · rintro w' ⟨s0, s1, s2, s3, s4, s5, s6, s7, s8, s9, s10, s11, s12, s13⟩
        go_simp
        with_reducible rfl
      rotate_left
      · simp only [Act.put, List.setIfInBounds_toArray, List.set_cons_zero, List.set_cons_succ, i64_w, i32_w]
        rfl
      refine one_ (i := 13) (N := some 41) #[true, true, true, true, true, true, true, true, true, true, true, true, true, true, false, false, false, false] rfl rfl (by kernel_rfl) (by decide) (fun K hK => ?_)
      refine goes_ Try.func29 (by kernel_rfl) rfl #[.agg #[.int .i64 m.f0, .int .i64 m.f1.f0, .int .i64 m.f1.f1, .int .i64 m.f2, .int .i64 m.f3, .int .i64 m.f4, .int .i64 m.f5, .int .i64 m.f6, .bool m.f7, .slice A8 m.f8.length C8, .slice A9 m.f9.length C9]] (by rfl) rfl rfl (by simp only [List.map_toArray, List.map_cons, List.map_nil]; rfl) ?_
      with_reducible refine (mcopied_calls (m := m) (w := wr.drew) (Kd.C_below G8.out (below_drew B6.out)) (Kd.C_below G9.out (below_drew B6.out)) FT.out).mono ?_
      rintro x w7 ⟨v7, rfl, ⟨v8, v9_, rfl, hO, hQ⟩, hb⟩
      refine ⟨_, rfl, ?_⟩
      obtain ⟨B8_, D8, e8⟩ := Kd.R_slice hO
      obtain ⟨B9_, D9, e9⟩ := Kd.R_slice hQ
      subst e8 e9
      have HB7 := Aside0.mk (below_step (below_drew (Below.refl wr.heap.size wr)) hb)
      have P7 := Aside0.mk (blk_below P6.out HB7.out)
      have X7 := Aside0.mk (blk_below X6.out HB7.out)
      have B7 := Aside0.mk (below_step B6.out HB7.out)
      have O7 := Aside0.mk (Kd.R_below O6.out HB7.out)
      have U7 := Aside0.mk (Kd.R_mono (ok' := fun k_ => wr.drew.heap.size ≤ k_) (Kd.R_bound hO) (fun k_ hk => hk.2.1))
      have V7 := Aside0.mk (Kd.R_mono (ok' := fun k_ => wr.drew.heap.size ≤ k_) (Kd.R_bound hQ) (fun k_ hk => hk.2.1))
      clear hO hQ hb
      dsimp only [mgV]
      refine hK.out _ _ ⟨(blk_cell P7.out 0).trans rfl, (blk_cell X7.out 0).trans rfl, (blk_cell X7.out 1).trans rfl, cell_bel2 EX.out.1 B7.out, cell_bel2 EX.out.2.1 B7.out, cell_bel2 EX.out.2.2.1 B7.out, cell_bel2 EX.out.2.2.2.1 B7.out, cell_bel2 EX.out.2.2.2.2.1 B7.out, cell_bel2 EX.out.2.2.2.2.2.1 B7.out, cell_bel2 EX.out.2.2.2.2.2.2.1 B7.out, cell_bel2 EX.out.2.2.2.2.2.2.2.1 B7.out, cell_bel2 EX.out.2.2.2.2.2.2.2.2.1 B7.out, cell_bel2 EX.out.2.2.2.2.2.2.2.2.2.1 B7.out, cell_bel2 EX.out.2.2.2.2.2.2.2.2.2.2 B7.out⟩ (fun hHeld => ?_)
      clear hK K
      refine norm_ (a' := ?_) ?_ ?_
      rotate_left
      · show Act.put _ (some 41) _ = _
        simp only [Act.put, List.setIfInBounds_toArray, List.set_cons_zero, List.set_cons_succ, i64_w, i32_w]
        rfl
      refine pure_ (i := 14) (N := some 42) (v := ?_) (a' := ?_) #[true, true, true, true, true, true, true, true, true, true, true, true, true, true, true, false, false, false] rfl rfl (by kernel_rfl) (fun _ _ _ h => h) (Or.inl ⟨by rfl, ?_⟩) ?_ ?_
      rotate_left
      · intro w'
        go_simp
        with_reducible rfl
      rotate_left
      · simp only [Act.put, List.setIfInBounds_toArray, List.set_cons_zero, List.set_cons_succ, i64_w, i32_w]
        rfl
      refine last_ (i := 15) (N := some 43) #[true, true, true, true, true, true, true, true, true, true, true, true, true, true, true, true, false, false] rfl rfl (by kernel_rfl) (by decide) (fun K hK => ?_)
      refine Kd.R_lit_step k37 (w0 := w7) w5.heap.size 37 (by rfl) (N := 43) ?hd (xs := [⟨me, (t : Int), ((n + 1 : Nat) : Int), s.f1, m⟩]) (inner := [.int .i64 me, .int .i64 (t : Int), .int .i64 ((n + 1 : Nat) : Int), .int .i64 s.f1, .int .i64 m.f0, .int .i64 m.f1.f0, .int .i64 m.f1.f1, .int .i64 m.f2, .int .i64 m.f3, .int .i64 m.f4, .int .i64 m.f5, .int .i64 m.f6, .bool m.f7, .slice B8_ m.f8.length D8, .slice B9_ m.f9.length D9]) (ok := fun k_ => wr.drew.heap.size ≤ k_) (okp := fun k_ => wr.drew.heap.size ≤ k_) ?hr ?hp (fun _ hk => hk) HB7.out.size (Below.refl _ _) (below_step BW.out HB7.out).size (by simp) ?_
      (case hd => rfl)
      (case hr => first | (go_simp; done) | (go_simp; rfl))
      (case hp => exact Reps.front (k37_mkM w7 w5.heap.size (fun k_ => wr.drew.heap.size ≤ k_) ⟨me, (t : Int), ((n + 1 : Nat) : Int), s.f1, m⟩ (Kd.R_lower U7.out BW.out.size) (Kd.R_lower V7.out BW.out.size)) rfl (Reps.none _ _) (List.append_nil _))
      intro vL w8 hoL hb hg_ hnew_
      have hbL := below_gn_ hg_
      obtain ⟨AL, cL, eL, hlL, hrL⟩ := OwnRow.reads hoL.2
      subst eL
      have HB8 := Aside0.mk (below_step HB7.out hbL)
      have B8 := Aside0.mk (below_step B7.out hbL)
      have O8 := Aside0.mk (Kd.R_below O7.out hbL)
      have RL := Aside0.mk hrL
      clear hoL hb hg_ hnew_ hbL hrL hlL
      refine hK.out _ _ ?_
      clear hK K
      refine norm_ (a' := ?_) ?_ ?_
      rotate_left
      · show Act.put _ (some 43) _ = _
        simp only [Act.put, List.setIfInBounds_toArray, List.set_cons_zero, List.set_cons_succ, i64_w, i32_w]
        rfl
      refine last_ (i := 16) (N := some 44) #[true, true, true, true, true, true, true, true, true, true, true, true, true, true, true, true, true, false] rfl rfl (by kernel_rfl) (by decide) (fun K hK => ?_)
      refine Kd.R_append_rows_step k37 (Rr := k37.M w8 w5.heap.size (fun k_ => wr.drew.heap.size ≤ k_ ∧ some k_ ≠ (Value.slice AL 1 cL).ownBlock)) (w0 := w5) w5.heap.size (by rfl) (.tmp 28) (.tmp 43) 24 37 (.agg #[.int .i64 0, .int .i64 0, .int .i64 0, .int .i64 0, .int .i64 0, .int .i64 0, .int .i64 0, .int .i64 0, .int .i64 0, .int .i64 0, .int .i64 0, .int .i64 0, .bool false, .slice none 0 0, .slice none 0 0]) 152 rfl Try.underlying24 info37__ rfl (by decide) (by omega) (.slice A6 OL.length c6) OL [⟨me, (t : Int), ((n + 1 : Nat) : Int), s.f1, m⟩] _ _ _ (fun _ => True) (fun k_ => wr.drew.heap.size ≤ k_ ∧ some k_ ≠ (Value.slice AL 1 cL).ownBlock) rfl rfl ?aO ?aR (fun _ _ h => h) ?aK ?aF ?aB ?aS ?aL ?_
      (case aR => exact RL.out)
      (case aK => exact (fun k_ hk => ⟨trivial, fun e => by have := Kd.R_lt O6.out k_ e.symm; exact absurd hk.1 (Nat.not_le.mpr this)⟩))
      (case aB => exact below_step BW.out HB8.out)
      (case aF => exact (fun _ _ => trivial))
      (case aO => exact O8.out)
      (case aS => exact (below_step BW.out HB8.out).size)
      (case aL => have := HOLl.out; simp only [List.length_cons, List.length_nil]; omega)
      intro v10 w9 ho hb hg hat
      rw [← HNX.out] at ho
      have O9 := Aside0.mk ho
      have BW9 := Aside0.mk hb
      clear ho hb hg hat
      refine hK.out _ _ ?_
      clear hK K
      refine norm_ (a' := ?_) ?_ ?_
      rotate_left
      · show Act.put _ (some 44) _ = _
        simp only [Act.put, List.setIfInBounds_toArray, List.set_cons_zero, List.set_cons_succ, i64_w, i32_w]
        rfl
      refine pure_ (i := 17) (N := some 8) (v := ?_) (a' := ?_) #[true, true, true, true, true, true, true, true, true, true, true, true, true, true, true, true, true, true] rfl rfl (by kernel_rfl) (fun _ _ _ h => h) (Or.inl ⟨by rfl, ?_⟩) ?_ ?_
      rotate_left
      · intro w'
        go_simp
        with_reducible rfl
      rotate_left
      · simp only [Act.put, List.setIfInBounds_toArray, List.set_cons_zero, List.set_cons_succ, i64_w, i32_w]
        rfl
      refine done_ (by kernel_rfl) ?_
      go_wp2_with fail
      go_roundg (gk - 1)
      case measure => have := NK.out.2; omega
      case rel => exact ⟨n + 1, by (first | rw [b1] | rfl), ⟨NK.out.1⟩, O9, BW9⟩
    have d1 : decide ((n : Int) < (s.f0.length : Int)) = false := decide_eq_false (by omega)
    have d2 : decide (n < s.f0.length) = false := decide_eq_false hi
    have d3 : (n < s.f0.length) = False := eq_false hi
    by_cases hk : k < s.f0.length
    · have hnl : n = s.f0.length := by have := HN.out; omega
      subst hnl
      have hpk : pkFrom me t s.f1 ((s.f0.take s.f0.length).drop k) k = packL me t s k := by unfold packL; rw [if_pos hk, List.take_length]
      have hp0 : 0 < (packL me t s k).length := by rw [← hpk, pkFrom_len, List.length_drop, List.length_take]; omega
      rw [hpk] at O6
      simp only [hpk]
      obtain ⟨OL, hOL⟩ : ∃ OL, OL = packL me t s k := ⟨_, rfl⟩
      rw [← hOL] at O6 hp0
      simp only [← hOL]
      have HOL2 := Aside0.mk hOL.symm
      have e1 : ((OL.length : Int) == 0) = false := beq_eq_false_iff_ne.mpr (by omega)
      have e2 : (OL.length == 0) = false := beq_eq_false_iff_ne.mpr (by omega)
      have e3 : (OL.length = 0) = False := eq_false (by omega)
      clear hi hk HN hpk hp0 hOL
      go_wp2_with fail
      go_ret
      exact ⟨.slice A6 OL.length c6, rfl, by rw [HOL2.out]; exact Kd.R_lower O6.out B5.out.size, B6.out⟩
    have hp0 : (pkFrom me t s.f1 ((s.f0.take n).drop k) k).length = 0 := by rw [pkFrom_len, List.length_drop, List.length_take]; omega
    have hpn : pkFrom me t s.f1 ((s.f0.take n).drop k) k = [] := List.eq_nil_of_length_eq_zero hp0
    have hpk : packL me t s k = [⟨me, t, 0, s.f1, z35⟩] := by unfold packL; rw [if_neg hk]
    rw [hpn] at O6
    simp only [hpn, List.length_nil]
    have HPK := Aside0.mk hpk
    have e1 : ((0 : Int) == 0) = true := rfl
    clear hi hk HN hpk hp0 hpn
    have xc0 : wr.cell? ⟨g3, 0, none⟩ = some (.int .i64 me) := (blk_cell P6.out 0).trans rfl; have xf0 := blk_frozen P6.out 0
    go_wp2_with (first | ((with_reducible refine gate_dst (N := 55) rfl ?_); refine Kd.R_lit k37 (w0 := wr) w5.heap.size 37 ?hg (N := 55) ?hd (xs := [⟨me, (t : Int), 0, s.f1, z35⟩]) (inner := [.int .i64 me, .int .i64 (t : Int), .int .i64 0, .int .i64 s.f1, .int .i64 0, .int .i64 0, .int .i64 0, .int .i64 0, .int .i64 0, .int .i64 0, .int .i64 0, .int .i64 0, .bool false, .slice none 0 0, .slice none 0 0]) (ok := fun k_ => wr.heap.size ≤ k_) (okp := fun k_ => wr.heap.size ≤ k_) ?hr ?hp (fun _ hk => hk) (Nat.le_refl _) (Below.refl _ _) BW.out.size (by simp) ?_; (case hd => rfl); (case hg => rfl); (case hr => first | (go_simp; done) | (go_simp; rfl)); (case hp => exact Reps.front (k37_mkM wr w5.heap.size (fun k_ => wr.heap.size ≤ k_) ⟨me, (t : Int), 0, s.f1, z35⟩ (Kd.R_nil _ _ _ _ _) (Kd.R_nil _ _ _ _ _)) rfl (Reps.none _ _) (List.append_nil _)); intro vL w8 hoL hb hg_ hnew_; have hbL := below_gn_ hg_; obtain ⟨AL, cL, eL, hlL, hrL⟩ := OwnRow.reads hoL.2; subst eL; have HB8 := Aside0.mk hbL; have O8 := Aside0.mk (Kd.R_below O6.out hbL); have RL := Aside0.mk hrL; clear hoL hb hg_ hnew_ hbL hrL hlL) | ((with_reducible refine gate_builtin (b := .append) (xs := #[.tmp 48, .tmp 55]) rfl ?_); at_builtin; refine Kd.R_append_rows k37 (Rr := k37.M w8 w5.heap.size (fun k_ => wr.heap.size ≤ k_ ∧ some k_ ≠ (Value.slice AL 1 cL).ownBlock)) (w0 := w5) w5.heap.size rfl (.tmp 48) (.tmp 55) 24 37 (.agg #[.int .i64 0, .int .i64 0, .int .i64 0, .int .i64 0, .int .i64 0, .int .i64 0, .int .i64 0, .int .i64 0, .int .i64 0, .int .i64 0, .int .i64 0, .int .i64 0, .bool false, .slice none 0 0, .slice none 0 0]) 152 rfl Try.underlying24 info37__ rfl (by decide) (by omega) (.slice A6 0 c6) [] [⟨me, (t : Int), 0, s.f1, z35⟩] _ _ _ (fun _ => True) (fun k_ => wr.heap.size ≤ k_ ∧ some k_ ≠ (Value.slice AL 1 cL).ownBlock) rfl rfl ?aO ?aR (fun _ _ h => h) ?aK ?aF ?aB ?aS ?aL ?_; (case aR => exact RL.out); (case aK => exact (fun k_ hk => ⟨trivial, fun e => by have := Kd.R_lt O6.out k_ e.symm; exact absurd hk.1 (Nat.not_le.mpr this)⟩)); (case aB => exact below_step BW.out HB8.out); (case aF => exact (fun _ _ => trivial)); (case aO => exact O8.out); (case aS => exact (below_step BW.out HB8.out).size); (case aL => simp only [List.length_cons, List.length_nil]; omega); intro v10 w9 ho hb hg hat; have O9 := Aside0.mk ho; have B9 := Aside0.mk hb; clear ho hb hg hat))
    go_ret
    exact ⟨v10, rfl, by rw [HPK.out]; exact Kd.R_lower O9.out B5.out.size, below_step B5.out B9.out⟩
end Go.Proofs.Ythgdojaildccaaa.M
