/-
  A reader's list of bytes (code.Reader.Bytes), walked by hand.
-/
import Derived.Test.YtpbchkgahjafeaaOReader
import Derived.Test.YtpbchkgahjafeaaPCode2
namespace Go.Proofs.Ytpbchkgahjafeaa.M
open Go.RowKit Go.Proofs.YtpbchkgahjafeaaW.PrintWords Go.Proofs.YtpbchkgahjafeaaW.PrintLast Go.Proofs.YtpbchkgahjafeaaW.PrintMore
set_option linter.unusedVariables false
set_option linter.unusedSimpArgs false
theorem C_move {w w' : World} {A : Option Addr} {l : List Int} (h : Kd.C (Kd.int .u8) w A l.length l) (hm : ∀ ad, A = some ad → 0 < l.length → w'.heap[ad.block]? = w.heap[ad.block]?) : Kd.C (Kd.int .u8) w' A l.length l := by
  obtain ⟨g1, g2, g3⟩ := h
  refine ⟨g1, g2, fun hn => ?_⟩
  obtain ⟨ad, hA2, hc⟩ := g3 hn
  refine ⟨ad, hA2, fun j p hp => ?_⟩
  obtain ⟨c, hl, hR, hcell⟩ := hc j p hp
  refine ⟨c, hl, hR, fun i u hu => ?_⟩
  rw [← hcell i u hu]
  exact cell_of_heap (by rw [add_block]; exact hm ad hA2 hn)
theorem below_set0 {B : Nat} {w W : World} (h : Below B w W) {p : Addr} (hp : B ≤ p.block) (u : Value) : Below B w (W.setCell p u) :=
  ⟨h.os, h.tape, h.output, by simpa [World.setCell] using h.size, fun k hk => (Below.heap_setCell W p u k (by omega)).trans (h.block k hk)⟩
set_option maxHeartbeats 4000000 in
set_option maxRecDepth 100000 in
theorem rd_Bytes_err {lo : Nat} {w : World} {g : Nat} {l : List Int} {a e : Int} {k : Nat} {a1 e1 : Int} (h : IsR lo w g l a e) (hf : code_Reader_Int.f k l a e 0 16384 = some (0, a1, e1)) (he : e1 ≠ 0) :
    Calls Try.prog 20 #[.pointer (some ⟨g, 0, none⟩)] w fun x w' => x = .returned (.slice none 0 0) ∧ IsR 0 w' g l a1 e1 ∧ Below g w w' ∧ KeepBut w w' g none := by
  have R0 := Aside0.mk h
  have H0 := Aside0.mk hf
  clear h hf
  have b1 : (e1 == 0) = false := beq_eq_false_iff_ne.mpr he
  have b2 : (e1 != 0) = true := bne_iff_ne.mpr he
  clear he
  go_enter Try.func20, Try.ntmps20
  go_wp2_with (first | (go_at_call 18; refine (rd_Int 0 16384 R0.out H0.out).mono ?_; rintro e w4 ⟨rfl, hR, hb, hk⟩; have B4 := Aside0.mk hb; have R4 := Aside0.mk hR; have K4 := Aside0.mk hk; obtain ⟨A, c, hcells, hA, hC, hLe⟩ := hR; have hc0 : w4.cell? ⟨g, 0, none⟩ = some (.slice A l.length c) := (blk_cell hcells 0).trans rfl; have hc1 : w4.cell? ⟨g, 1, none⟩ = some (.int .i64 a1) := (blk_cell hcells 1).trans rfl; have hc2 : w4.cell? ⟨g, 2, none⟩ = some (.int .i64 e1) := (blk_cell hcells 2).trans rfl; have HLe := Aside0.mk hLe; clear hb hk hC hA hcells hLe))
  repeat (go_quiet (first | fail))
  go_wp2
  go_ret
  exact ⟨rfl, R4.out, (by repeat (first | exact B4.out | apply pw_below_drewN | apply below_drew1)), K4.out⟩
set_option maxHeartbeats 4000000 in
set_option maxRecDepth 100000 in
theorem rd_Bytes_short {lo : Nat} {w : World} {g : Nat} {l : List Int} {a e : Int} {k : Nat} {n : Int} {a1 : Nat} (h : IsR lo w g l a e) (hf : code_Reader_Int.f k l a e 0 16384 = some (n, (a1 : Int), 0)) (h1 : (l.length : Int) - a1 < n) (h2 : a1 ≤ l.length) (hl : l.length < 140737488355328) :
    Calls Try.prog 20 #[.pointer (some ⟨g, 0, none⟩)] w fun x w' => x = .returned (.slice none 0 0) ∧ IsR 0 w' g l a1 40 ∧ Below g w w' ∧ KeepBut w w' g none := by
  have R0 := Aside0.mk h
  have H0 := Aside0.mk hf
  have b1 : decide ((l.length : Int) - (a1 : Int) < n) = true := decide_eq_true h1
  have b2 : decide (n > (l.length : Int) - (a1 : Int)) = true := b1
  have b3 : wrap64 ((l.length : Int) - (a1 : Int)) = (l.length : Int) - (a1 : Int) := by unfold wrap64; omega
  have HF := Aside0.mk (show code_Reader_fail.f l (a1 : Int) 0 40 = some ((a1 : Int), 40) from rfl)
  clear h hf h1 h2 hl
  go_enter Try.func20, Try.ntmps20
  go_wp2_with (first | (go_at_call 18; refine (rd_Int 0 16384 R0.out H0.out).mono ?_; rintro e w4 ⟨rfl, hR, hb, hk⟩; have B4 := Aside0.mk hb; have R4 := Aside0.mk hR; have K4 := Aside0.mk hk; obtain ⟨A, c, hcells, hA, hC, hLe⟩ := hR; have hc0 : w4.cell? ⟨g, 0, none⟩ = some (.slice A l.length c) := (blk_cell hcells 0).trans rfl; have hc1 : w4.cell? ⟨g, 1, none⟩ = some (.int .i64 a1) := (blk_cell hcells 1).trans rfl; have hc2 : w4.cell? ⟨g, 2, none⟩ = some (.int .i64 0) := (blk_cell hcells 2).trans rfl; clear hb hk hC hA hcells hLe))
  repeat (go_quiet (first | fail))
  have R5 := Aside0.mk (show IsR 0 (w4.drewN nq) g l a1 0 from R4.out)
  have B5 := Aside0.mk (pw_below_drewN B4.out nq)
  have K5 := Aside0.mk (show KeepBut w (w4.drewN nq) g none from K4.out)
  clear hc0 hc1 hc2 R4 B4 K4
  generalize w4.drewN nq = w5 at R5 B5 K5 ⊢
  go_wp2_with (first | (go_at_call 29; refine (rd_fail R5.out HF.out).mono ?_; rintro e w6 ⟨rfl, hR, hb, hk⟩; have B6 := Aside0.mk (B5.out.trans hb); have R6 := Aside0.mk hR; have K6 := Aside0.mk (KeepBut.trans K5.out hk (.inl rfl)); obtain ⟨A6, c6, hcells, hA, hC, hLe⟩ := hR; have hc2 : w6.cell? ⟨g, 2, none⟩ = some (.int .i64 40) := (blk_cell hcells 2).trans rfl; clear hb hk hC hA hcells hLe))
  go_ret
  exact ⟨rfl, R6.out, B6.out, K6.out⟩
set_option maxHeartbeats 4000000 in
set_option maxRecDepth 100000 in
theorem rd_Bytes_ok {lo : Nat} {w : World} {g : Nat} {l : List Int} {a e : Int} {k : Nat} {n : Int} {a1 : Nat} (h : IsR lo w g l a e) (hf : code_Reader_Int.f k l a e 0 16384 = some (n, (a1 : Int), 0)) (h0 : 0 ≤ n) (h1 : a1 + n ≤ l.length) (hl : l.length < 140737488355328) :
    Calls Try.prog 20 #[.pointer (some ⟨g, 0, none⟩)] w fun x w' => ∃ v, x = .returned v ∧ Kd.R (Kd.int .u8) 5 w' w.heap.size (fun _ => True) v ((l.drop a1).take n.toNat) ∧ IsR 0 w' g l (a1 + n) 0 ∧ Below g w w' ∧ KeepBut w w' g none := by
  have R0 := Aside0.mk h
  have H0 := Aside0.mk hf
  have L0 := Aside0.mk hl
  have N0 := Aside0.mk h0
  have N1 := Aside0.mk h1
  clear h hf hl
  have b1 : decide ((l.length : Int) - (a1 : Int) < n) = false := decide_eq_false (by omega)
  have b2 : decide (n > (l.length : Int) - (a1 : Int)) = false := b1
  have b3 : wrap64 ((l.length : Int) - (a1 : Int)) = (l.length : Int) - (a1 : Int) := by unfold wrap64; have := L0.out; omega
  have b4 : wrap64 ((a1 : Int) + n) = (a1 : Int) + n := by unfold wrap64; have := L0.out; omega
  have b6 : wrap64 (a1 : Int) = (a1 : Int) := by unfold wrap64; have := L0.out; omega
  clear h0 h1
  go_enter Try.func20, Try.ntmps20
  go_wp2_with (first | (go_at_call 18; refine (rd_Int 0 16384 R0.out H0.out).mono ?_; rintro e w4 ⟨rfl, hR, hb, hk⟩; have B4 := Aside0.mk hb; have R4 := Aside0.mk hR; have K4 := Aside0.mk hk; obtain ⟨A, c, hcells, hA, hC, hLe⟩ := hR; have hc0 : w4.cell? ⟨g, 0, none⟩ = some (.slice A l.length c) := (blk_cell hcells 0).trans rfl; have hc1 : w4.cell? ⟨g, 1, none⟩ = some (.int .i64 a1) := (blk_cell hcells 1).trans rfl; have hc2 : w4.cell? ⟨g, 2, none⟩ = some (.int .i64 0) := (blk_cell hcells 2).trans rfl; have hf1 := blk_frozen hcells 1; have BK := Aside0.mk hcells; have HA := Aside0.mk hA; have HC := Aside0.mk hC; have HLe := Aside0.mk hLe; clear hb hk hC hA hcells hLe))
  repeat (go_quiet (first | fail))
  go_wp2
  have ht : (0 : Int) ≤ (a1 : Int) := by omega
  obtain ⟨i0, hi0, _, hsz0, _⟩ := info_parts info5
  have b5 : wrap64 ((a1 : Int) + n - n) = (a1 : Int) := by unfold wrap64; have := L0.out; have := N0.out; have := N1.out; omega
  obtain ⟨A', hcut, hcr, hcl⟩ := print_mid_int (P := Try.prog) (k := .u8) 22 5 Try.underlying22 hi0 hsz0 A c l (a1 : Int) ((a1 : Int) + n) ht (by have := N0.out; omega) N1.out HLe.out
  have BK6 := Aside0.mk (blk_put BK.out 1 (.int .i64 ((a1 : Int) + n)) (cs' := #[.slice A l.length c, .int .i64 ((a1 : Int) + n), .int .i64 0]) rfl)
  have K6 := Aside0.mk (KeepBut.set_ K4.out 1 (.int .i64 ((a1 : Int) + n)))
  have B6 := Aside0.mk (below_set0 B4.out (p := ⟨g, 1, none⟩) (Nat.le_refl _) (.int .i64 ((a1 : Int) + n)))
  have C6 := Aside0.mk (C_move HC.out (w' := w4.setCell ⟨g, 1, none⟩ (.int .i64 ((a1 : Int) + n))) (fun ad h1 h2 => Below.heap_setCell w4 ⟨g, 1, none⟩ _ ad.block (Nat.ne_of_lt (HA.out ad h1 h2).2)))
  have D6 := Aside0.mk (Kd.C_of_reads (h1 := fun _ => rfl) (hcr _ (Kd.reads_of_C C6.out)))
  have hN : (w4.drewN nq).setCell ⟨g, 1, none⟩ (.int .i64 ((a1 : Int) + n)) = (w4.setCell ⟨g, 1, none⟩ (.int .i64 ((a1 : Int) + n))).drewN nq := by rfl
  rw [hN]
  clear hcr
  generalize (w4.setCell ⟨g, 1, none⟩ (.int .i64 ((a1 : Int) + n))) = w6 at BK6 K6 B6 C6 D6 ⊢
  have BK7 := Aside0.mk (blk_drewN BK6.out nq)
  have K7 := Aside0.mk (show KeepBut w (w6.drewN nq) g none from K6.out)
  have B7 := Aside0.mk (pw_below_drewN B6.out nq)
  have CC := Aside0.mk (Kd.C_drewN D6.out nq)
  have C7 := Aside0.mk (Kd.C_drewN C6.out nq)
  clear BK6 K6 B6 C6 D6 hN
  generalize w6.drewN nq = w7 at BK7 K7 B7 CC C7 ⊢
  refine start_ (n := 18) (S := fun w' => w'.cell? ⟨g, 0, none⟩ = some (.slice A l.length c) ∧ w'.cell? ⟨g, 1, none⟩ = some (.int .i64 ((a1 : Int) + n))) (ds := []) #[false, false, false, false, false, false, false, false, false, false, false, false, false, false, false, false, false, false] (by kernel_rfl) rfl rfl ⟨(blk_cell (blk_drew BK7.out) 0).trans rfl, (blk_cell (blk_drew BK7.out) 1).trans rfl⟩ (fun hHeld => ?_)
  refine pure_ (i := 1) (N := some 41) (v := ?_) (a' := ?_) #[false, true, false, false, false, false, false, false, false, false, false, false, false, false, false, false, false, false] rfl rfl (by kernel_rfl) (fun _ _ _ h => h) (Or.inl ⟨by rfl, ?_⟩) ?_ ?_
  rotate_left
  · intro w'
    go_simp
    with_reducible rfl
  rotate_left
  · simp only [Act.put, List.setIfInBounds_toArray, List.set_cons_zero, List.set_cons_succ, i64_w, i32_w]
    rfl
  refine pure_ (i := 2) (N := some 42) (v := ?_) (a' := ?_) #[false, true, true, false, false, false, false, false, false, false, false, false, false, false, false, false, false, false] rfl rfl (by kernel_rfl) (fun _ _ _ h => h) (Or.inl ⟨by rfl, ?_⟩) ?_ ?_
  rotate_left
  · intro w'
    go_simp
    with_reducible rfl
  rotate_left
  · simp only [Act.put, List.setIfInBounds_toArray, List.set_cons_zero, List.set_cons_succ, i64_w, i32_w]
    rfl
  refine pure_ (i := 3) (N := some 43) (v := ?_) (a' := ?_) #[false, true, true, true, false, false, false, false, false, false, false, false, false, false, false, false, false, false] rfl rfl (by kernel_rfl) (fun _ _ _ h => h) (Or.inl ⟨by rfl, ?_⟩) ?_ ?_
  rotate_left
  · intro w'
    go_simp
    with_reducible rfl
  rotate_left
  · simp only [Act.put, List.setIfInBounds_toArray, List.set_cons_zero, List.set_cons_succ, i64_w, i32_w]
    rfl
  refine pure_ (i := 5) (N := some 45) (v := ?_) (a' := ?_) #[false, true, true, true, false, true, false, false, false, false, false, false, false, false, false, false, false, false] rfl rfl (by kernel_rfl) (fun _ _ _ h => h) (Or.inl ⟨by rfl, ?_⟩) ?_ ?_
  rotate_left
  · intro w'
    go_simp
    with_reducible rfl
  rotate_left
  · simp only [Act.put, List.setIfInBounds_toArray, List.set_cons_zero, List.set_cons_succ, i64_w, i32_w]
    rfl
  refine pure_ (i := 6) (N := some 46) (v := ?_) (a' := ?_) #[false, true, true, true, false, true, true, false, false, false, false, false, false, false, false, false, false, false] rfl rfl (by kernel_rfl) (fun _ _ _ h => h) (Or.inl ⟨by rfl, ?_⟩) ?_ ?_
  rotate_left
  · intro w'
    go_simp
    with_reducible rfl
  rotate_left
  · simp only [Act.put, List.setIfInBounds_toArray, List.set_cons_zero, List.set_cons_succ, i64_w, i32_w]
    rfl
  refine pure_ (i := 7) (N := some 47) (v := ?_) (a' := ?_) #[false, true, true, true, false, true, true, true, false, false, false, false, false, false, false, false, false, false] rfl rfl (by kernel_rfl) (fun _ _ _ h => h) (Or.inl ⟨by rfl, ?_⟩) ?_ ?_
  rotate_left
  · intro w'
    go_simp
    with_reducible rfl
  rotate_left
  · simp only [Act.put, List.setIfInBounds_toArray, List.set_cons_zero, List.set_cons_succ, i64_w, i32_w]
    rfl
  refine pure_ (i := 9) (N := some 49) (v := ?_) (a' := ?_) #[false, true, true, true, false, true, true, true, false, true, false, false, false, false, false, false, false, false] rfl rfl (by kernel_rfl) (fun _ _ _ h => h) (Or.inl ⟨by rfl, ?_⟩) ?_ ?_
  rotate_left
  · intro w'
    go_simp
    with_reducible rfl
  rotate_left
  · simp only [Act.put, List.setIfInBounds_toArray, List.set_cons_zero, List.set_cons_succ, i64_w, i32_w]
    rfl
  refine pure_ (i := 11) (N := some 51) (v := ?_) (a' := ?_) #[false, true, true, true, false, true, true, true, false, true, false, true, false, false, false, false, false, false] rfl rfl (by kernel_rfl) (fun _ _ _ h => h) (Or.inl ⟨by rfl, ?_⟩) ?_ ?_
  rotate_left
  · intro w'
    go_simp
    with_reducible rfl
  rotate_left
  · simp only [Act.put, List.setIfInBounds_toArray, List.set_cons_zero, List.set_cons_succ, i64_w, i32_w]
    rfl
  refine pure_ (i := 12) (N := some 52) (v := ?_) (a' := ?_) #[false, true, true, true, false, true, true, true, false, true, false, true, true, false, false, false, false, false] rfl rfl (by kernel_rfl) (fun _ _ _ h => h) (Or.inl ⟨by rfl, ?_⟩) ?_ ?_
  rotate_left
  · intro w'
    go_simp
    with_reducible rfl
  rotate_left
  · simp only [Act.put, List.setIfInBounds_toArray, List.set_cons_zero, List.set_cons_succ, i64_w, i32_w]
    rfl
  refine pure_ (i := 13) (N := some 53) (v := ?_) (a' := ?_) #[false, true, true, true, false, true, true, true, false, true, false, true, true, true, false, false, false, false] rfl rfl (by kernel_rfl) (fun _ _ _ h => h) (Or.inl ⟨by rfl, ?_⟩) ?_ ?_
  rotate_left
  · intro w'
    go_simp
    with_reducible rfl
  rotate_left
  · simp only [Act.put, List.setIfInBounds_toArray, List.set_cons_zero, List.set_cons_succ, i64_w, i32_w]
    rfl
  refine take_ (i := 4) (N := some 44) (v := ?_) (a' := ?_) #[false, true, true, true, true, true, true, true, false, true, false, true, true, true, false, false, false, false] rfl rfl (by kernel_rfl) (fun _ _ _ h => h) (Or.inl ⟨by rfl, ?_⟩) hHeld ?_ ?_
  rotate_left
  · rintro w' ⟨s0, s1⟩
    go_simp
    with_reducible rfl
  rotate_left
  · simp only [Act.put, List.setIfInBounds_toArray, List.set_cons_zero, List.set_cons_succ, i64_w, i32_w]
    rfl
  refine take_ (i := 8) (N := some 48) (v := ?_) (a' := ?_) #[false, true, true, true, true, true, true, true, true, true, false, true, true, true, false, false, false, false] rfl rfl (by kernel_rfl) (fun _ _ _ h => h) (Or.inl ⟨by rfl, ?_⟩) hHeld ?_ ?_
  rotate_left
  · rintro w' ⟨s0, s1⟩
    go_simp
    with_reducible rfl
  rotate_left
  · simp only [Act.put, List.setIfInBounds_toArray, List.set_cons_zero, List.set_cons_succ, i64_w, i32_w]
    rfl
  refine pure_ (i := 10) (N := some 50) (v := ?_) (a' := ?_) #[false, true, true, true, true, true, true, true, true, true, true, true, true, true, false, false, false, false] rfl rfl (by kernel_rfl) (fun _ _ _ h => h) (Or.inl ⟨by rfl, ?_⟩) ?_ ?_
  rotate_left
  · intro w'
    go_simp
    with_reducible rfl
  rotate_left
  · simp only [Act.put, List.setIfInBounds_toArray, List.set_cons_zero, List.set_cons_succ, i64_w, i32_w]
    rfl
  refine take_ (i := 14) (N := some 54) (v := ?_) (a' := ?_) #[false, true, true, true, true, true, true, true, true, true, true, true, true, true, true, false, false, false] rfl rfl (by kernel_rfl) (fun _ _ _ h => h) (Or.inl ⟨by rfl, ?_⟩) hHeld ?_ ?_
  rotate_left
  · rintro w' ⟨s0, s1⟩
    go_simp
    with_reducible rfl
  rotate_left
  · simp only [Act.put, List.setIfInBounds_toArray, List.set_cons_zero, List.set_cons_succ, i64_w, i32_w]
    rfl
  refine pure_ (i := 15) (N := some 55) (v := ?_) (a' := ?_) #[false, true, true, true, true, true, true, true, true, true, true, true, true, true, true, true, false, false] rfl rfl (by kernel_rfl) (fun _ _ _ h => h) (Or.inl ⟨by rfl, ?_⟩) ?_ ?_
  rotate_left
  · intro w'
    go_simp
    with_reducible rfl
  rotate_left
  · simp only [Act.put, List.setIfInBounds_toArray, List.set_cons_zero, List.set_cons_succ, i64_w, i32_w]
    rfl
  refine one_ (i := 0) (N := some 40) #[true, true, true, true, true, true, true, true, true, true, true, true, true, true, true, true, false, false] rfl rfl (by kernel_rfl) (by decide) (fun K hK => ?_)
  refine Kd.R_lit_step (Kd.int .u8) _ 5 ?hg (N := 40) ?hd (xs := ([] : List Int)) (inner := []) (ok := fun _ => True) (okp := fun _ => True) ?hr ?hp (fun _ hk => hk) trivial (Below.refl _ _) (Nat.le_refl _) (by simp) ?_
  (case hd => rfl)
  (case hg => rfl)
  (case hr => first | (go_simp; done) | (go_simp; rfl))
  (case hp => exact (Reps.none _ _))
  intro v1 w9 ho10 hb hg_ hnew_
  clear hg_ hnew_
  have O9 := Aside0.mk ho10
  have D9 := Aside0.mk (below_step (below_drew1 (Below.refl w7.heap.size w7)) hb)
  have BK9 := Aside0.mk (blk_below (blk_drew BK7.out) hb)
  clear hb ho10
  refine hK.out _ _ ⟨(blk_cell BK9.out 0).trans rfl, (blk_cell BK9.out 1).trans rfl⟩ (fun hHeld => ?_)
  clear hK K
  refine norm_ (a' := ?_) ?_ ?_
  rotate_left
  · show Act.put _ (some 40) _ = _
    simp only [Act.put, List.setIfInBounds_toArray, List.set_cons_zero, List.set_cons_succ, i64_w, i32_w]
    rfl
  refine one_ (i := 16) (N := some 56) #[true, true, true, true, true, true, true, true, true, true, true, true, true, true, true, true, true, false] rfl rfl (by kernel_rfl) (by decide) (fun K hK => ?_)
  refine Kd.R_append_rows_step (Kd.int .u8) (w0 := w7) w7.heap.size (by rfl) (.tmp 40) (.tmp 55) 22 5 (.int .u8 0) 1 rfl Try.underlying22 info5 rfl (by decide) (by omega) v1 [] ((l.take ((a1 : Int) + n).toNat).drop (a1 : Int).toNat) _ _ _ (fun _ => True) (fun _ => False) rfl rfl ?aO ?aR (fun _ _ h => h) (fun _ h => h.elim) ?aF ?aB ?aS ?aL ?_
  (case aR => have e_ : min ((a1 : Int) + n).toNat l.length - a1 = ((l.take ((a1 : Int) + n).toNat).drop (a1 : Int).toNat).length := (by rw [List.length_drop, List.length_take]; omega); rw [e_]; exact Kd.C_below CC.out D9.out)
  (case aB => exact D9.out)
  (case aF => exact (fun _ _ => trivial))
  (case aO => exact O9.out)
  (case aS => exact D9.out.size)
  (case aL => have := L0.out; have e_ : ((l.take ((a1 : Int) + n).toNat).drop (a1 : Int).toNat).length ≤ l.length := (by rw [List.length_drop, List.length_take]; omega); simp only [List.length_nil]; omega)
  intro v2 w11 ho hb hg hat
  rw [List.nil_append] at ho
  have O11 := Aside0.mk ho
  have D11 := Aside0.mk hb
  have BK11 := Aside0.mk (blk_below BK7.out hb)
  clear ho hb hg hat
  refine hK.out _ _ ⟨(blk_cell BK11.out 0).trans rfl, (blk_cell BK11.out 1).trans rfl⟩ (fun hHeld => ?_)
  clear hK K
  refine norm_ (a' := ?_) ?_ ?_
  rotate_left
  · show Act.put _ (some 56) _ = _
    simp only [Act.put, List.setIfInBounds_toArray, List.set_cons_zero, List.set_cons_succ, i64_w, i32_w]
    rfl
  refine pure_ (i := 17) (N := some 2) (v := ?_) (a' := ?_) #[true, true, true, true, true, true, true, true, true, true, true, true, true, true, true, true, true, true] rfl rfl (by kernel_rfl) (fun _ _ _ h => h) (Or.inl ⟨by rfl, ?_⟩) ?_ ?_
  rotate_left
  · intro w'
    go_simp
    with_reducible rfl
  rotate_left
  · simp only [Act.put, List.setIfInBounds_toArray, List.set_cons_zero, List.set_cons_succ, i64_w, i32_w]
    rfl
  refine done_ (by kernel_rfl) ?_
  go_wp2
  go_ret
  have hl : ((l.take ((a1 : Int) + n).toNat).drop (a1 : Int).toNat) = (l.drop a1).take n.toNat := by
    have := N0.out
    rw [List.drop_take]
    congr 1
    omega
  have ho := O11.out
  rw [hl] at ho
  have hw : w.heap.size ≤ w7.heap.size := K7.out.1
  refine ⟨v2, rfl, Kd.R_lower ho hw, ⟨A, c, BK11.out, fun ad h1 h2 => ⟨Nat.zero_le _, (HA.out ad h1 h2).2⟩, Kd.C_below C7.out D11.out, HLe.out⟩, B7.out.trans (D11.out.mono (Nat.le_trans (Nat.le_of_lt R0.out.lt) hw)), ⟨Nat.le_trans hw D11.out.size, fun i hi hg hr => (D11.out.block i (Nat.lt_of_lt_of_le hi hw)).trans (K7.out.2 i hi hg hr)⟩⟩
end Go.Proofs.Ytpbchkgahjafeaa.M
