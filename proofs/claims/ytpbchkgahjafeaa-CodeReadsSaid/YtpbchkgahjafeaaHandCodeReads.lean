/-
  CodeReads, walked by hand: whatever is read from any bytes is the document's answer, with its error; once there is one nothing more is read.
-/
import Derived.Test.YtpbchkgahjafeaaPReads04b
import Derived.Test.YtpbchkgahjafeaaRowCodeReads
namespace Go.Proofs.Ytpbchkgahjafeaa.Pure
open Go.RowKit Go.Proofs.Ytpbchkgahjafeaa.M Go.Proofs.YtpbchkgahjafeaaW.PrintWords Go.Proofs.YtpbchkgahjafeaaW.PrintLast Go.Proofs.YtpbchkgahjafeaaW.PrintMore Go.Proofs.Ytpbchkgahjafeaa.Pure.Code Go.Proofs.Ytpbchkgahjafeaa.Pure.Bits
set_option linter.unusedVariables false
set_option linter.unusedSimpArgs false
abbrev set3 (w : World) (g : Nat) (x y z : Value) : World := ((w.setCell ⟨g, 0, none⟩ x).setCell ⟨g, 1, none⟩ y).setCell ⟨g, 2, none⟩ z
theorem set3_blk {w : World} {g t : Nat} {a b c : Value} (h : w.heap[g]? = some (.cells #[a, b, c] t (0, 0))) (x y z : Value) : (set3 w g x y z).heap[g]? = some (.cells #[x, y, z] t (0, 0)) :=
  blk_put (blk_put (blk_put h 0 x (cs' := #[x, b, c]) rfl) 1 y (cs' := #[x, y, c]) rfl) 2 z rfl
theorem set3_kept (w : World) (g : Nat) (x y z : Value) : Kept w (set3 w g x y z) (fun k => k = g) :=
  ((((Kept.refl w (fun k => k = g)).setCell (p := ⟨g, 0, none⟩) (.inl rfl) x).setCell (p := ⟨g, 1, none⟩) (.inl rfl) y).setCell (p := ⟨g, 2, none⟩) (.inl rfl) z)
theorem set3_far {w : World} {g k : Nat} {o : Obj} (h : w.heap[k]? = some o) (hk : k ≠ g) (x y z : Value) : (set3 w g x y z).heap[k]? = some o :=
  ((set3_kept w g x y z).2 k (blk_lt h) hk).trans h
theorem set3_below {B : Nat} {w W : World} {g : Nat} (h : Below B w W) (hg : B ≤ g) (x y z : Value) : Below B w (set3 W g x y z) :=
  below_set0 (below_set0 (below_set0 h (p := ⟨g, 0, none⟩) hg x) (p := ⟨g, 1, none⟩) hg y) (p := ⟨g, 2, none⟩) hg z
set_option maxHeartbeats 4000000 in
set_option maxRecDepth 100000 in
theorem CodeReads_hand (A0 : Option Addr) (c0 : Nat) (l0 : List Int) (A1 : Option Addr) (c1 : Nat) (l1 : List S42) (w : World)
    (hr0 : Kd.C (Kd.int .u8) w A0 l0.length l0) (hc0 : l0.length ≤ c0) (hr1 : Kd.C k42 w A1 l1.length l1) (hc1 : l1.length ≤ c1)
    (g0 : l0.length * 1 ≤ 140737488351232 ∧ ∀ x ∈ l0, (Lit.int .u8 x).wf = true) (g1 : l1.length * 24 ≤ 140737488351232 ∧ ∀ x ∈ l1, G42 x) :
    Calls Try.prog 7 #[.slice A0 l0.length c0, .slice A1 l1.length c1] w fun e w' => e = .returned (.bool true) ∧ Below w.heap.size w w' := by
  have hB0 : Bytes l0 := fun x hx => by
    have := g0.2 x hx; simp [Lit.wf, IntKind.min, IntKind.max, IntKind.signed, IntKind.bits] at this; omega
  obtain ⟨k1, h1⟩ := writes_ev.rounds
  have HB := Aside0.mk (Below.refl w.heap.size w)
  have H1 := Aside0.mk h1; clear h1
  have HR0 := Aside0.mk hr0; have HC0 := Aside0.mk hc0; have HR1 := Aside0.mk hr1; have HC1 := Aside0.mk hc1; clear hr0 hc0 hr1 hc1
  by_cases h0_ : l0.length > 20000
  · have c0_ : decide (20000 < (l0.length : Int)) = true := decide_eq_true (by omega)
    have c1_ : decide ((l0.length : Int) > 20000) = true := decide_eq_true (by omega)
    clear g0 g1
    go_enter Try.func7, Try.ntmps7
    go_wp2_with (first | (go_at_call 10; refine (contralaw04_writes.calls k1 true _ H1.out).mono ?_; rintro e w1 ⟨rfl, hb⟩; have B1 := Aside0.mk (below_step HB.out hb); clear hb))
    go_ret
    exact ⟨rfl, B1.out⟩
  have c0a_ : decide (20000 < (l0.length : Int)) = false := decide_eq_false (by omega)
  have c0b_ : decide ((l0.length : Int) > 20000) = false := decide_eq_false (by omega)
  have HL0 := Aside0.mk (show l0.length ≤ 20000 by omega)
  clear h0_
  by_cases h1_ : l1.length > 50
  · have c0_ : decide (50 < (l1.length : Int)) = true := decide_eq_true (by omega)
    have c1_ : decide ((l1.length : Int) > 50) = true := decide_eq_true (by omega)
    clear g0 g1
    go_enter Try.func7, Try.ntmps7
    go_wp2_with (first | (go_at_call 10; refine (contralaw04_writes.calls k1 true _ H1.out).mono ?_; rintro e w1 ⟨rfl, hb⟩; have B1 := Aside0.mk (below_step HB.out hb); clear hb))
    go_ret
    exact ⟨rfl, B1.out⟩
  have c1a_ : decide (50 < (l1.length : Int)) = false := decide_eq_false (by omega)
  have c1b_ : decide ((l1.length : Int) > 50) = false := decide_eq_false (by omega)
  have HL1 := Aside0.mk (show l1.length ≤ 50 by omega)
  have HB0 := Aside0.mk hB0
  clear h1_ g0 g1 hB0
  go_enter Try.func7, Try.ntmps7
  go_wp2_with fail
  refine (contralaw04_writes.calls k1 true _ H1.out).mono ?_; rintro e w1 ⟨rfl, hb⟩; have B1 := Aside0.mk (below_step HB.out hb); clear hb HB
  go_wp2_with fail
  refine (code_Read.callsm rfl (Kd.C_below HR0.out B1.out) HC0.out (by have := HL0.out; omega)).mono ?_; rintro e w2 ⟨g, rfl, hg, hR, hb⟩; have B2 := Aside0.mk (below_step B1.out hb); have R2 := Aside0.mk hR.zero; have G2 := Aside0.mk (Nat.le_trans B1.out.size hg); clear hg hR hb
  have hcv := Kd.C_string (P := Try.prog) (c := c0) Try.underlying22 Try.underlying5 Try.underlying9 (Kd.C_below HR0.out B2.out)
  go_wp2_with (first | ((with_reducible refine gate_dst (N := 6) rfl ?_); refine box_event ?hg (N := 6) ?hd (cs := #[.string (⟨#[]⟩ : ByteArray), .int .i64 0, .int .i64 0]) (t := 40) ?hr ?_; (case hd => rfl); (case hg => rfl); (case hr => first | (go_simp; done) | (go_simp; rfl)); intro gw hg w3 hbox hb; have B3 := Aside0.mk (below_step B2.out hb); have R3 := Aside0.mk (R2.out.below hb); have K3 := Aside0.mk hbox; have GW := Aside0.mk (show g < gw ∧ w.heap.size ≤ gw from by rw [hg]; exact ⟨R2.out.lt, B2.out.size⟩); clear hb hg hbox; have hz0 : w3.cell? ⟨gw, 0, none⟩ = some (.string (⟨#[]⟩ : ByteArray)) := (blk_cell K3.out 0).trans rfl; have hz1 : w3.cell? ⟨gw, 1, none⟩ = some (.int .i64 0) := (blk_cell K3.out 1).trans rfl; have hz2 : w3.cell? ⟨gw, 2, none⟩ = some (.int .i64 0) := (blk_cell K3.out 2).trans rfl; have hf0 := blk_frozen K3.out 0; have hf1 := blk_frozen K3.out 1; have hf2 := blk_frozen K3.out 2))
--LOOP
  have B4 := Aside0.mk (set3_below B3.out GW.out.2 (.string (strOfNums l0)) (.int .i64 0) (.int .i64 0))
  have R4 := Aside0.mk (R3.out.kept (set3_kept w3 gw (.string (strOfNums l0)) (.int .i64 0) (.int .i64 0)) (fun k hk => by subst hk; have := GW.out.1; omega))
  have K4 := Aside0.mk (set3_blk K3.out (.string (strOfNums l0)) (.int .i64 0) (.int .i64 0))
  go_loopg [35] (l1.length + 1) (fun kq v35 w' => ∃ (i a : Nat) (e ra : Int), v35 = .int .i64 (i : Int) ∧ Aside0 (i ≤ l1.length ∧ i + kq = l1.length + 1) ∧ Aside0 (Together l0 a e ra) ∧ Aside0 (IsR 0 w' g l0 (a : Int) e) ∧ Aside0 (w'.heap[gw]? = some (.cells #[.string (strOfNums l0), .int .i64 ra, .int .i64 e] 40 (0, 0))) ∧ Aside0 (Below w.heap.size w w'))
  case atStart => exact ⟨0, 0, 0, 0, rfl, ⟨by omega, by omega⟩, ⟨⟨by omega, fun _ => rfl⟩⟩, R4, K4, B4⟩
  case round =>
    obtain ⟨i, a, e, ra, rfl, HI, HT, R5, K5, B5⟩ := hrel
    by_cases hi : i < l1.length
    · have d1 : decide ((i : Int) < (l1.length : Int)) = true := decide_eq_true (by omega)
      have hi0 : (0 : Int) ≤ (i : Int) := by omega
      have hi1 : (i : Int) < (l1.length : Int) := by omega
      obtain ⟨ad, rfl, x0_, x1_, x2_⟩ := at_T42 (Kd.C_below HR1.out B5.out) (i : Int) hi0 hi1
      obtain ⟨q, hq⟩ : ∃ q, q = rd_T42 l1 (i : Int) := ⟨_, rfl⟩
      rw [← hq, Int.toNat_natCast] at x0_ x1_ x2_
      clear hq
      have b2 : wrap64 ((i : Int) + 1) = ((i + 1 : Nat) : Int) := by have := HL1.out; unfold wrap64; omega
      have q1 := eq_true hi0
      have q2 := eq_true hi1
      have q3 : decide ((0 : Int) ≤ (i : Int)) = true := decide_eq_true hi0
      have NK := Aside0.mk (show (i + 1 ≤ l1.length ∧ i + 1 + (gk - 1) = l1.length + 1) ∧ 0 < gk by have := HI.out; omega)
      clear hi
      by_cases hk_ : q.f0 = 0
      · have t0 : (q.f0 == 0) = true := beq_iff_eq.mpr hk_
        clear hk_
        obtain ⟨n, a2, e2, ra2, hE1, hE2, ht2, -⟩ := num_pair HB0.out (by have := HL0.out; omega) HT.out
        obtain ⟨j1, hj1⟩ := hE1.rounds
        obtain ⟨j2, hj2⟩ := hE2.rounds
        have HJ1 := Aside0.mk hj1
        have HJ2 := Aside0.mk hj2
        clear hE1 hE2 hj1 hj2
        have HT2 := Aside0.mk ht2
        clear ht2
        go_wp2_with (first | ((with_reducible refine gate_dst (N := 8) rfl ?_); refine box_event ?hg (N := 8) ?hd (cs := #[.int .i64 0, .int .i64 0, .int .i64 0]) (t := 42) ?hr ?_; (case hd => rfl); (case hg => rfl); (case hr => first | (go_simp; done) | (go_simp; rfl)); intro gx hg w6 hbox hb; have GX := Aside0.mk (show g < gx ∧ gw < gx ∧ w.heap.size ≤ gx from by rw [hg]; exact ⟨R5.out.lt, blk_lt K5.out, B5.out.size⟩); have B6 := Aside0.mk (below_step B5.out hb); have R6 := Aside0.mk (R5.out.below hb); have K6 := Aside0.mk (blk_below K5.out hb); have X6 := Aside0.mk hbox; clear B5 R5 K5; have zc0 : w6.cell? ⟨gx, 0, none⟩ = some (.int .i64 0) := (blk_cell X6.out 0).trans rfl; have zf0 := blk_frozen X6.out 0; have zc1 : w6.cell? ⟨gx, 1, none⟩ = some (.int .i64 0) := (blk_cell X6.out 1).trans rfl; have zf1 := blk_frozen X6.out 1; have zc2 : w6.cell? ⟨gx, 2, none⟩ = some (.int .i64 0) := (blk_cell X6.out 2).trans rfl; have zf2 := blk_frozen X6.out 2; clear hb hg hbox) | ((with_reducible refine gate_dst (N := 39) rfl ?_); have B7 := Aside0.mk (set3_below B6.out GX.out.2.2 (.int .i64 q.f0) (.int .i64 q.f1) (.int .i64 q.f2)); have R7 := Aside0.mk (R6.out.kept (set3_kept w6 gx (.int .i64 q.f0) (.int .i64 q.f1) (.int .i64 q.f2)) (fun k hk => by subst hk; have := GX.out.1; omega)); have K7 := Aside0.mk (set3_far K6.out (Nat.ne_of_lt GX.out.2.1) (.int .i64 q.f0) (.int .i64 q.f1) (.int .i64 q.f2)); have X7 := Aside0.mk (set3_blk X6.out (.int .i64 q.f0) (.int .i64 q.f1) (.int .i64 q.f2)); clear B6 R6 K6 X6; clear zc0 zf0 zc1 zf1 zc2 zf2; unfold set3 at B7 R7 K7 X7; generalize (((w6.setCell ⟨gx, 0, none⟩ (.int .i64 q.f0)).setCell ⟨gx, 1, none⟩ (.int .i64 q.f1)).setCell ⟨gx, 2, none⟩ (.int .i64 q.f2)) = w7 at B7 R7 K7 X7 ⊢; have xc0 : w7.cell? ⟨gx, 0, none⟩ = some (.int .i64 q.f0) := (blk_cell X7.out 0).trans rfl; have xf0 := blk_frozen X7.out 0; have xc1 : w7.cell? ⟨gx, 1, none⟩ = some (.int .i64 q.f1) := (blk_cell X7.out 1).trans rfl; have xf1 := blk_frozen X7.out 1; have xc2 : w7.cell? ⟨gx, 2, none⟩ = some (.int .i64 q.f2) := (blk_cell X7.out 2).trans rfl; have xf2 := blk_frozen X7.out 2; have kc0 : w7.cell? ⟨gw, 0, none⟩ = some (.string (strOfNums l0)) := (blk_cell K7.out 0).trans rfl; have kf0 := blk_frozen K7.out 0; have kc1 : w7.cell? ⟨gw, 1, none⟩ = some (.int .i64 ra) := (blk_cell K7.out 1).trans rfl; have kf1 := blk_frozen K7.out 1; have kc2 : w7.cell? ⟨gw, 2, none⟩ = some (.int .i64 e) := (blk_cell K7.out 2).trans rfl; have kf2 := blk_frozen K7.out 2))
        refine (contraref04_Number.calls j2 (strOfNums l0) ra e _ _ _ _ _ HJ2.out).mono ?_; rintro x w8 ⟨rfl, hb⟩; have B8 := Aside0.mk (below_step B7.out hb); have R8 := Aside0.mk (R7.out.below hb); have K8 := Aside0.mk (blk_below K7.out hb); have X8 := Aside0.mk (blk_below X7.out hb); clear B7 R7 K7 X7; clear hb xc0 xf0 xc1 xf1 xc2 xf2 kc0 kf0 kc1 kf1 kc2 kf2
        go_wp2_with (first | ((with_reducible refine gate_dst (N := 9) rfl ?_); refine box_event ?hg (N := 9) ?hd (cs := #[.string (⟨#[]⟩ : ByteArray), .int .i64 0, .int .i64 0]) (t := 40) ?hr ?_; (case hd => rfl); (case hg => rfl); (case hr => first | (go_simp; done) | (go_simp; rfl)); intro gy hg w9 hbox hb; have GY := Aside0.mk (show g < gy ∧ gw < gy ∧ gx < gy ∧ w.heap.size ≤ gy from by rw [hg]; exact ⟨R8.out.lt, blk_lt K8.out, blk_lt X8.out, B8.out.size⟩); have Y9 := Aside0.mk hbox; have B9 := Aside0.mk (below_step B8.out hb); have R9 := Aside0.mk (R8.out.below hb); have K9 := Aside0.mk (blk_below K8.out hb); have X9 := Aside0.mk (blk_below X8.out hb); clear B8 R8 K8 X8; have zc0 : w9.cell? ⟨gy, 0, none⟩ = some (.string (⟨#[]⟩ : ByteArray)) := (blk_cell Y9.out 0).trans rfl; have zf0 := blk_frozen Y9.out 0; have zc1 : w9.cell? ⟨gy, 1, none⟩ = some (.int .i64 0) := (blk_cell Y9.out 1).trans rfl; have zf1 := blk_frozen Y9.out 1; have zc2 : w9.cell? ⟨gy, 2, none⟩ = some (.int .i64 0) := (blk_cell Y9.out 2).trans rfl; have zf2 := blk_frozen Y9.out 2; clear hb hg hbox) | ((with_reducible refine gate_dst (N := 48) rfl ?_); have B10 := Aside0.mk (set3_below B9.out GY.out.2.2.2 (.string (strOfNums l0)) (.int .i64 ra2) (.int .i64 e2)); have R10 := Aside0.mk (R9.out.kept (set3_kept w9 gy (.string (strOfNums l0)) (.int .i64 ra2) (.int .i64 e2)) (fun k hk => by subst hk; have := GY.out.1; omega)); have K10 := Aside0.mk (set3_far K9.out (Nat.ne_of_lt GY.out.2.1) (.string (strOfNums l0)) (.int .i64 ra2) (.int .i64 e2)); have X10 := Aside0.mk (set3_far X9.out (Nat.ne_of_lt GY.out.2.2.1) (.string (strOfNums l0)) (.int .i64 ra2) (.int .i64 e2)); have Y10 := Aside0.mk (set3_blk Y9.out (.string (strOfNums l0)) (.int .i64 ra2) (.int .i64 e2)); clear B9 R9 K9 X9 Y9; clear zc0 zf0 zc1 zf1 zc2 zf2; unfold set3 at B10 R10 K10 X10 Y10; generalize (((w9.setCell ⟨gy, 0, none⟩ (.string (strOfNums l0))).setCell ⟨gy, 1, none⟩ (.int .i64 ra2)).setCell ⟨gy, 2, none⟩ (.int .i64 e2)) = w10 at B10 R10 K10 X10 Y10 ⊢; have yc0 : w10.cell? ⟨gy, 0, none⟩ = some (.string (strOfNums l0)) := (blk_cell Y10.out 0).trans rfl; have yf0 := blk_frozen Y10.out 0; have yc1 : w10.cell? ⟨gy, 1, none⟩ = some (.int .i64 ra2) := (blk_cell Y10.out 1).trans rfl; have yf1 := blk_frozen Y10.out 1; have yc2 : w10.cell? ⟨gy, 2, none⟩ = some (.int .i64 e2) := (blk_cell Y10.out 2).trans rfl; have yf2 := blk_frozen Y10.out 2; have kc0 : w10.cell? ⟨gw, 0, none⟩ = some (.string (strOfNums l0)) := (blk_cell K10.out 0).trans rfl; have kf0 := blk_frozen K10.out 0; have kc1 : w10.cell? ⟨gw, 1, none⟩ = some (.int .i64 ra) := (blk_cell K10.out 1).trans rfl; have kf1 := blk_frozen K10.out 1; have kc2 : w10.cell? ⟨gw, 2, none⟩ = some (.int .i64 e) := (blk_cell K10.out 2).trans rfl; have kf2 := blk_frozen K10.out 2))
        have B11 := Aside0.mk (set3_below B10.out GW.out.2 (.string (strOfNums l0)) (.int .i64 ra2) (.int .i64 e2)); have R11 := Aside0.mk (R10.out.kept (set3_kept w10 gw (.string (strOfNums l0)) (.int .i64 ra2) (.int .i64 e2)) (fun k hk => by subst hk; have := GW.out.1; omega)); have K11 := Aside0.mk (set3_blk K10.out (.string (strOfNums l0)) (.int .i64 ra2) (.int .i64 e2)); have X11 := Aside0.mk (set3_far X10.out (Nat.ne_of_gt GX.out.2.1) (.string (strOfNums l0)) (.int .i64 ra2) (.int .i64 e2)); clear B10 R10 K10 X10 Y10 yc0 yf0 yc1 yf1 yc2 yf2 kc0 kf0 kc1 kf1 kc2 kf2; unfold set3 at B11 R11 K11 X11; generalize (((w10.setCell ⟨gw, 0, none⟩ (.string (strOfNums l0))).setCell ⟨gw, 1, none⟩ (.int .i64 ra2)).setCell ⟨gw, 2, none⟩ (.int .i64 e2)) = w11 at B11 R11 K11 X11 ⊢
        refine (rd_Num R11.out HJ1.out).mono ?_; rintro x w12 ⟨rfl, hR, hb, hk⟩; have B12 := Aside0.mk (B11.out.trans (hb.mono G2.out)); have R12 := Aside0.mk hR; have K12 := Aside0.mk (KeepBut.blk hk K11.out (Nat.ne_of_gt GW.out.1) (by simp));  clear hR hb hk
        go_wp2_with fail
        have HE := Aside0.mk (show code_Reader_Err.f l0 (a2 : Int) e2 = some (e2, (a2 : Int), e2) from rfl)
        refine start_ (n := 5) (S := fun w' => w'.cell? ⟨gw, 2, none⟩ = some (.int .i64 e2)) (ds := []) #[false, false, false, false, false] (by kernel_rfl) rfl rfl (((blk_cell (blk_drew K12.out) 2).trans rfl)) (fun hHeld => ?_)
        refine pure_ (i := 0) (N := some 98) (v := ?_) (a' := ?_) #[true, false, false, false, false] rfl rfl (by kernel_rfl) (fun _ _ _ h => h) (Or.inl ⟨by rfl, ?_⟩) ?_ ?_
        rotate_left
        · intro w'
          go_simp
          with_reducible rfl
        rotate_left
        · simp only [Act.put, List.setIfInBounds_toArray, List.set_cons_zero, List.set_cons_succ, i64_w, i32_w]
          rfl
        refine take_ (i := 2) (N := some 100) (v := ?_) (a' := ?_) #[true, false, true, false, false] rfl rfl (by kernel_rfl) (fun _ _ _ h => h) (Or.inl ⟨by rfl, ?_⟩) hHeld ?_ ?_
        rotate_left
        · intro w' s0
          go_simp
          with_reducible rfl
        rotate_left
        · simp only [Act.put, List.setIfInBounds_toArray, List.set_cons_zero, List.set_cons_succ, i64_w, i32_w]
          rfl
        refine take_ (i := 3) (N := some 101) (v := ?_) (a' := ?_) #[true, false, true, true, false] rfl rfl (by kernel_rfl) (fun _ _ _ h => h) (Or.inl ⟨by rfl, ?_⟩) hHeld ?_ ?_
        rotate_left
        · intro w' s0
          go_simp
          with_reducible rfl
        rotate_left
        · simp only [Act.put, List.setIfInBounds_toArray, List.set_cons_zero, List.set_cons_succ, i64_w, i32_w]
          rfl
        refine one_ (i := 1) (N := some 99) #[true, true, true, true, false] rfl rfl (by kernel_rfl) (by decide) (fun K hK => ?_)
        refine goes_ Try.func15 (by kernel_rfl) rfl #[.pointer (some ⟨g, 0, none⟩)] (by rfl) rfl rfl (by simp only [List.map_toArray, List.map_cons, List.map_nil]; rfl) ?_
        with_reducible refine (rd_Err (w := w12.drew) (R12.out.below (below_drew (Below.refl _ _))) HE.out).mono ?_
        rintro x w20 ⟨rfl, hR, hb, hk⟩
        refine ⟨_, rfl, ?_⟩
        have B20 := Aside0.mk ((below_step B12.out (below_drew (Below.refl _ _))).trans (hb.mono G2.out))
        have R20 := Aside0.mk hR
        have K20 := Aside0.mk (KeepBut.blk hk (blk_drew K12.out) (Nat.ne_of_gt GW.out.1) (by simp))
        clear hR hb hk
        refine hK.out _ _ (((blk_cell K20.out 2).trans rfl)) (fun hHeld => ?_)
        clear hK K
        refine norm_ (a' := ?_) ?_ ?_
        rotate_left
        · show Act.put _ (some 99) _ = _
          simp only [Act.put, List.setIfInBounds_toArray, List.set_cons_zero, List.set_cons_succ, i64_w, i32_w]
          rfl
        refine pure_ (i := 4) (N := some 102) (v := ?_) (a' := ?_) #[true, true, true, true, true] rfl rfl (by kernel_rfl) (fun _ _ _ h => h) (Or.inl ⟨by rfl, ?_⟩) ?_ ?_
        rotate_left
        · intro w'
          go_simp
          with_reducible rfl
        rotate_left
        · simp only [Act.put, List.setIfInBounds_toArray, List.set_cons_zero, List.set_cons_succ, i64_w, i32_w]
          rfl
        refine done_ (by kernel_rfl) ?_
        go_wp2
        go_roundg (gk - 1)
        case measure => have := NK.out.2; omega
        case rel => exact ⟨i + 1, a2, e2, ra2, by rw [b2], ⟨NK.out.1⟩, HT2, R20, K20, B20⟩
      have t0 : (q.f0 == 0) = false := beq_eq_false_iff_ne.mpr hk_
      clear hk_
      by_cases hk_ : q.f0 = 1
      · have t1 : (q.f0 == 1) = true := beq_iff_eq.mpr hk_
        clear hk_
        obtain ⟨n, a2, e2, ra2, hE1, hE2, ht2, -, -⟩ := int_pair HB0.out (by have := HL0.out; omega) HT.out q.f1 q.f2
        obtain ⟨j1, hj1⟩ := hE1.rounds
        obtain ⟨j2, hj2⟩ := hE2.rounds
        have HJ1 := Aside0.mk hj1
        have HJ2 := Aside0.mk hj2
        clear hE1 hE2 hj1 hj2
        have HT2 := Aside0.mk ht2
        clear ht2
        go_wp2_with (first | ((with_reducible refine gate_dst (N := 8) rfl ?_); refine box_event ?hg (N := 8) ?hd (cs := #[.int .i64 0, .int .i64 0, .int .i64 0]) (t := 42) ?hr ?_; (case hd => rfl); (case hg => rfl); (case hr => first | (go_simp; done) | (go_simp; rfl)); intro gx hg w6 hbox hb; have GX := Aside0.mk (show g < gx ∧ gw < gx ∧ w.heap.size ≤ gx from by rw [hg]; exact ⟨R5.out.lt, blk_lt K5.out, B5.out.size⟩); have B6 := Aside0.mk (below_step B5.out hb); have R6 := Aside0.mk (R5.out.below hb); have K6 := Aside0.mk (blk_below K5.out hb); have X6 := Aside0.mk hbox; clear B5 R5 K5; have zc0 : w6.cell? ⟨gx, 0, none⟩ = some (.int .i64 0) := (blk_cell X6.out 0).trans rfl; have zf0 := blk_frozen X6.out 0; have zc1 : w6.cell? ⟨gx, 1, none⟩ = some (.int .i64 0) := (blk_cell X6.out 1).trans rfl; have zf1 := blk_frozen X6.out 1; have zc2 : w6.cell? ⟨gx, 2, none⟩ = some (.int .i64 0) := (blk_cell X6.out 2).trans rfl; have zf2 := blk_frozen X6.out 2; clear hb hg hbox) | ((with_reducible refine gate_dst (N := 39) rfl ?_); have B7 := Aside0.mk (set3_below B6.out GX.out.2.2 (.int .i64 q.f0) (.int .i64 q.f1) (.int .i64 q.f2)); have R7 := Aside0.mk (R6.out.kept (set3_kept w6 gx (.int .i64 q.f0) (.int .i64 q.f1) (.int .i64 q.f2)) (fun k hk => by subst hk; have := GX.out.1; omega)); have K7 := Aside0.mk (set3_far K6.out (Nat.ne_of_lt GX.out.2.1) (.int .i64 q.f0) (.int .i64 q.f1) (.int .i64 q.f2)); have X7 := Aside0.mk (set3_blk X6.out (.int .i64 q.f0) (.int .i64 q.f1) (.int .i64 q.f2)); clear B6 R6 K6 X6; clear zc0 zf0 zc1 zf1 zc2 zf2; unfold set3 at B7 R7 K7 X7; generalize (((w6.setCell ⟨gx, 0, none⟩ (.int .i64 q.f0)).setCell ⟨gx, 1, none⟩ (.int .i64 q.f1)).setCell ⟨gx, 2, none⟩ (.int .i64 q.f2)) = w7 at B7 R7 K7 X7 ⊢; have xc0 : w7.cell? ⟨gx, 0, none⟩ = some (.int .i64 q.f0) := (blk_cell X7.out 0).trans rfl; have xf0 := blk_frozen X7.out 0; have xc1 : w7.cell? ⟨gx, 1, none⟩ = some (.int .i64 q.f1) := (blk_cell X7.out 1).trans rfl; have xf1 := blk_frozen X7.out 1; have xc2 : w7.cell? ⟨gx, 2, none⟩ = some (.int .i64 q.f2) := (blk_cell X7.out 2).trans rfl; have xf2 := blk_frozen X7.out 2; have kc0 : w7.cell? ⟨gw, 0, none⟩ = some (.string (strOfNums l0)) := (blk_cell K7.out 0).trans rfl; have kf0 := blk_frozen K7.out 0; have kc1 : w7.cell? ⟨gw, 1, none⟩ = some (.int .i64 ra) := (blk_cell K7.out 1).trans rfl; have kf1 := blk_frozen K7.out 1; have kc2 : w7.cell? ⟨gw, 2, none⟩ = some (.int .i64 e) := (blk_cell K7.out 2).trans rfl; have kf2 := blk_frozen K7.out 2))
        refine (contraref04_Int.calls j2 (strOfNums l0) ra e q.f1 q.f2 _ _ _ _ _ HJ2.out).mono ?_; rintro x w8 ⟨rfl, hb⟩; have B8 := Aside0.mk (below_step B7.out hb); have R8 := Aside0.mk (R7.out.below hb); have K8 := Aside0.mk (blk_below K7.out hb); have X8 := Aside0.mk (blk_below X7.out hb); clear B7 R7 K7 X7; clear hb xc0 xf0 xc1 xf1 xc2 xf2 kc0 kf0 kc1 kf1 kc2 kf2
        go_wp2_with (first | ((with_reducible refine gate_dst (N := 11) rfl ?_); refine box_event ?hg (N := 11) ?hd (cs := #[.string (⟨#[]⟩ : ByteArray), .int .i64 0, .int .i64 0]) (t := 40) ?hr ?_; (case hd => rfl); (case hg => rfl); (case hr => first | (go_simp; done) | (go_simp; rfl)); intro gy hg w9 hbox hb; have GY := Aside0.mk (show g < gy ∧ gw < gy ∧ gx < gy ∧ w.heap.size ≤ gy from by rw [hg]; exact ⟨R8.out.lt, blk_lt K8.out, blk_lt X8.out, B8.out.size⟩); have Y9 := Aside0.mk hbox; have B9 := Aside0.mk (below_step B8.out hb); have R9 := Aside0.mk (R8.out.below hb); have K9 := Aside0.mk (blk_below K8.out hb); have X9 := Aside0.mk (blk_below X8.out hb); clear B8 R8 K8 X8; have zc0 : w9.cell? ⟨gy, 0, none⟩ = some (.string (⟨#[]⟩ : ByteArray)) := (blk_cell Y9.out 0).trans rfl; have zf0 := blk_frozen Y9.out 0; have zc1 : w9.cell? ⟨gy, 1, none⟩ = some (.int .i64 0) := (blk_cell Y9.out 1).trans rfl; have zf1 := blk_frozen Y9.out 1; have zc2 : w9.cell? ⟨gy, 2, none⟩ = some (.int .i64 0) := (blk_cell Y9.out 2).trans rfl; have zf2 := blk_frozen Y9.out 2; clear hb hg hbox) | ((with_reducible refine gate_dst (N := 64) rfl ?_); have B10 := Aside0.mk (set3_below B9.out GY.out.2.2.2 (.string (strOfNums l0)) (.int .i64 ra2) (.int .i64 e2)); have R10 := Aside0.mk (R9.out.kept (set3_kept w9 gy (.string (strOfNums l0)) (.int .i64 ra2) (.int .i64 e2)) (fun k hk => by subst hk; have := GY.out.1; omega)); have K10 := Aside0.mk (set3_far K9.out (Nat.ne_of_lt GY.out.2.1) (.string (strOfNums l0)) (.int .i64 ra2) (.int .i64 e2)); have X10 := Aside0.mk (set3_far X9.out (Nat.ne_of_lt GY.out.2.2.1) (.string (strOfNums l0)) (.int .i64 ra2) (.int .i64 e2)); have Y10 := Aside0.mk (set3_blk Y9.out (.string (strOfNums l0)) (.int .i64 ra2) (.int .i64 e2)); clear B9 R9 K9 X9 Y9; clear zc0 zf0 zc1 zf1 zc2 zf2; unfold set3 at B10 R10 K10 X10 Y10; generalize (((w9.setCell ⟨gy, 0, none⟩ (.string (strOfNums l0))).setCell ⟨gy, 1, none⟩ (.int .i64 ra2)).setCell ⟨gy, 2, none⟩ (.int .i64 e2)) = w10 at B10 R10 K10 X10 Y10 ⊢; have yc0 : w10.cell? ⟨gy, 0, none⟩ = some (.string (strOfNums l0)) := (blk_cell Y10.out 0).trans rfl; have yf0 := blk_frozen Y10.out 0; have yc1 : w10.cell? ⟨gy, 1, none⟩ = some (.int .i64 ra2) := (blk_cell Y10.out 1).trans rfl; have yf1 := blk_frozen Y10.out 1; have yc2 : w10.cell? ⟨gy, 2, none⟩ = some (.int .i64 e2) := (blk_cell Y10.out 2).trans rfl; have yf2 := blk_frozen Y10.out 2; have kc0 : w10.cell? ⟨gw, 0, none⟩ = some (.string (strOfNums l0)) := (blk_cell K10.out 0).trans rfl; have kf0 := blk_frozen K10.out 0; have kc1 : w10.cell? ⟨gw, 1, none⟩ = some (.int .i64 ra) := (blk_cell K10.out 1).trans rfl; have kf1 := blk_frozen K10.out 1; have kc2 : w10.cell? ⟨gw, 2, none⟩ = some (.int .i64 e) := (blk_cell K10.out 2).trans rfl; have kf2 := blk_frozen K10.out 2) | ((with_reducible refine gate_dst (N := 66) rfl ?_); have B11 := Aside0.mk (set3_below B10.out GW.out.2 (.string (strOfNums l0)) (.int .i64 ra2) (.int .i64 e2)); have R11 := Aside0.mk (R10.out.kept (set3_kept w10 gw (.string (strOfNums l0)) (.int .i64 ra2) (.int .i64 e2)) (fun k hk => by subst hk; have := GW.out.1; omega)); have K11 := Aside0.mk (set3_blk K10.out (.string (strOfNums l0)) (.int .i64 ra2) (.int .i64 e2)); have X11 := Aside0.mk (set3_far X10.out (Nat.ne_of_gt GX.out.2.1) (.string (strOfNums l0)) (.int .i64 ra2) (.int .i64 e2)); clear B10 R10 K10 X10 Y10 yc0 yf0 yc1 yf1 yc2 yf2 kc0 kf0 kc1 kf1 kc2 kf2; unfold set3 at B11 R11 K11 X11; generalize (((w10.setCell ⟨gw, 0, none⟩ (.string (strOfNums l0))).setCell ⟨gw, 1, none⟩ (.int .i64 ra2)).setCell ⟨gw, 2, none⟩ (.int .i64 e2)) = w11 at B11 R11 K11 X11 ⊢; have xc0 : w11.cell? ⟨gx, 0, none⟩ = some (.int .i64 q.f0) := (blk_cell X11.out 0).trans rfl; have xf0 := blk_frozen X11.out 0; have xc1 : w11.cell? ⟨gx, 1, none⟩ = some (.int .i64 q.f1) := (blk_cell X11.out 1).trans rfl; have xf1 := blk_frozen X11.out 1; have xc2 : w11.cell? ⟨gx, 2, none⟩ = some (.int .i64 q.f2) := (blk_cell X11.out 2).trans rfl; have xf2 := blk_frozen X11.out 2))
        refine (rd_Int q.f1 q.f2 R11.out HJ1.out).mono ?_; rintro x w12 ⟨rfl, hR, hb, hk⟩; have B12 := Aside0.mk (B11.out.trans (hb.mono G2.out)); have R12 := Aside0.mk hR; have K12 := Aside0.mk (KeepBut.blk hk K11.out (Nat.ne_of_gt GW.out.1) (by simp));  clear hR hb hk
        go_wp2_with fail
        have HE := Aside0.mk (show code_Reader_Err.f l0 (a2 : Int) e2 = some (e2, (a2 : Int), e2) from rfl)
        refine start_ (n := 5) (S := fun w' => w'.cell? ⟨gw, 2, none⟩ = some (.int .i64 e2)) (ds := []) #[false, false, false, false, false] (by kernel_rfl) rfl rfl (((blk_cell (blk_drew K12.out) 2).trans rfl)) (fun hHeld => ?_)
        refine pure_ (i := 0) (N := some 98) (v := ?_) (a' := ?_) #[true, false, false, false, false] rfl rfl (by kernel_rfl) (fun _ _ _ h => h) (Or.inl ⟨by rfl, ?_⟩) ?_ ?_
        rotate_left
        · intro w'
          go_simp
          with_reducible rfl
        rotate_left
        · simp only [Act.put, List.setIfInBounds_toArray, List.set_cons_zero, List.set_cons_succ, i64_w, i32_w]
          rfl
        refine take_ (i := 2) (N := some 100) (v := ?_) (a' := ?_) #[true, false, true, false, false] rfl rfl (by kernel_rfl) (fun _ _ _ h => h) (Or.inl ⟨by rfl, ?_⟩) hHeld ?_ ?_
        rotate_left
        · intro w' s0
          go_simp
          with_reducible rfl
        rotate_left
        · simp only [Act.put, List.setIfInBounds_toArray, List.set_cons_zero, List.set_cons_succ, i64_w, i32_w]
          rfl
        refine take_ (i := 3) (N := some 101) (v := ?_) (a' := ?_) #[true, false, true, true, false] rfl rfl (by kernel_rfl) (fun _ _ _ h => h) (Or.inl ⟨by rfl, ?_⟩) hHeld ?_ ?_
        rotate_left
        · intro w' s0
          go_simp
          with_reducible rfl
        rotate_left
        · simp only [Act.put, List.setIfInBounds_toArray, List.set_cons_zero, List.set_cons_succ, i64_w, i32_w]
          rfl
        refine one_ (i := 1) (N := some 99) #[true, true, true, true, false] rfl rfl (by kernel_rfl) (by decide) (fun K hK => ?_)
        refine goes_ Try.func15 (by kernel_rfl) rfl #[.pointer (some ⟨g, 0, none⟩)] (by rfl) rfl rfl (by simp only [List.map_toArray, List.map_cons, List.map_nil]; rfl) ?_
        with_reducible refine (rd_Err (w := w12.drew) (R12.out.below (below_drew (Below.refl _ _))) HE.out).mono ?_
        rintro x w20 ⟨rfl, hR, hb, hk⟩
        refine ⟨_, rfl, ?_⟩
        have B20 := Aside0.mk ((below_step B12.out (below_drew (Below.refl _ _))).trans (hb.mono G2.out))
        have R20 := Aside0.mk hR
        have K20 := Aside0.mk (KeepBut.blk hk (blk_drew K12.out) (Nat.ne_of_gt GW.out.1) (by simp))
        clear hR hb hk
        refine hK.out _ _ (((blk_cell K20.out 2).trans rfl)) (fun hHeld => ?_)
        clear hK K
        refine norm_ (a' := ?_) ?_ ?_
        rotate_left
        · show Act.put _ (some 99) _ = _
          simp only [Act.put, List.setIfInBounds_toArray, List.set_cons_zero, List.set_cons_succ, i64_w, i32_w]
          rfl
        refine pure_ (i := 4) (N := some 102) (v := ?_) (a' := ?_) #[true, true, true, true, true] rfl rfl (by kernel_rfl) (fun _ _ _ h => h) (Or.inl ⟨by rfl, ?_⟩) ?_ ?_
        rotate_left
        · intro w'
          go_simp
          with_reducible rfl
        rotate_left
        · simp only [Act.put, List.setIfInBounds_toArray, List.set_cons_zero, List.set_cons_succ, i64_w, i32_w]
          rfl
        refine done_ (by kernel_rfl) ?_
        go_wp2
        go_roundg (gk - 1)
        case measure => have := NK.out.2; omega
        case rel => exact ⟨i + 1, a2, e2, ra2, by rw [b2], ⟨NK.out.1⟩, HT2, R20, K20, B20⟩
      have t1 : (q.f0 == 1) = false := beq_eq_false_iff_ne.mpr hk_
      clear hk_
      by_cases hk_ : q.f0 = 2
      · have t2 : (q.f0 == 2) = true := beq_iff_eq.mpr hk_
        clear hk_
        obtain ⟨n, a2, e2, ra2, hE1, hE2, ht2⟩ := bool_pair HB0.out (by have := HL0.out; omega) HT.out
        have HJ1 := Aside0.mk hE1
        have HJ2 := Aside0.mk hE2
        clear hE1 hE2
        have HT2 := Aside0.mk ht2
        clear ht2
        go_wp2_with (first | ((with_reducible refine gate_dst (N := 8) rfl ?_); refine box_event ?hg (N := 8) ?hd (cs := #[.int .i64 0, .int .i64 0, .int .i64 0]) (t := 42) ?hr ?_; (case hd => rfl); (case hg => rfl); (case hr => first | (go_simp; done) | (go_simp; rfl)); intro gx hg w6 hbox hb; have GX := Aside0.mk (show g < gx ∧ gw < gx ∧ w.heap.size ≤ gx from by rw [hg]; exact ⟨R5.out.lt, blk_lt K5.out, B5.out.size⟩); have B6 := Aside0.mk (below_step B5.out hb); have R6 := Aside0.mk (R5.out.below hb); have K6 := Aside0.mk (blk_below K5.out hb); have X6 := Aside0.mk hbox; clear B5 R5 K5; have zc0 : w6.cell? ⟨gx, 0, none⟩ = some (.int .i64 0) := (blk_cell X6.out 0).trans rfl; have zf0 := blk_frozen X6.out 0; have zc1 : w6.cell? ⟨gx, 1, none⟩ = some (.int .i64 0) := (blk_cell X6.out 1).trans rfl; have zf1 := blk_frozen X6.out 1; have zc2 : w6.cell? ⟨gx, 2, none⟩ = some (.int .i64 0) := (blk_cell X6.out 2).trans rfl; have zf2 := blk_frozen X6.out 2; clear hb hg hbox) | ((with_reducible refine gate_dst (N := 39) rfl ?_); have B7 := Aside0.mk (set3_below B6.out GX.out.2.2 (.int .i64 q.f0) (.int .i64 q.f1) (.int .i64 q.f2)); have R7 := Aside0.mk (R6.out.kept (set3_kept w6 gx (.int .i64 q.f0) (.int .i64 q.f1) (.int .i64 q.f2)) (fun k hk => by subst hk; have := GX.out.1; omega)); have K7 := Aside0.mk (set3_far K6.out (Nat.ne_of_lt GX.out.2.1) (.int .i64 q.f0) (.int .i64 q.f1) (.int .i64 q.f2)); have X7 := Aside0.mk (set3_blk X6.out (.int .i64 q.f0) (.int .i64 q.f1) (.int .i64 q.f2)); clear B6 R6 K6 X6; clear zc0 zf0 zc1 zf1 zc2 zf2; unfold set3 at B7 R7 K7 X7; generalize (((w6.setCell ⟨gx, 0, none⟩ (.int .i64 q.f0)).setCell ⟨gx, 1, none⟩ (.int .i64 q.f1)).setCell ⟨gx, 2, none⟩ (.int .i64 q.f2)) = w7 at B7 R7 K7 X7 ⊢; have xc0 : w7.cell? ⟨gx, 0, none⟩ = some (.int .i64 q.f0) := (blk_cell X7.out 0).trans rfl; have xf0 := blk_frozen X7.out 0; have xc1 : w7.cell? ⟨gx, 1, none⟩ = some (.int .i64 q.f1) := (blk_cell X7.out 1).trans rfl; have xf1 := blk_frozen X7.out 1; have xc2 : w7.cell? ⟨gx, 2, none⟩ = some (.int .i64 q.f2) := (blk_cell X7.out 2).trans rfl; have xf2 := blk_frozen X7.out 2; have kc0 : w7.cell? ⟨gw, 0, none⟩ = some (.string (strOfNums l0)) := (blk_cell K7.out 0).trans rfl; have kf0 := blk_frozen K7.out 0; have kc1 : w7.cell? ⟨gw, 1, none⟩ = some (.int .i64 ra) := (blk_cell K7.out 1).trans rfl; have kf1 := blk_frozen K7.out 1; have kc2 : w7.cell? ⟨gw, 2, none⟩ = some (.int .i64 e) := (blk_cell K7.out 2).trans rfl; have kf2 := blk_frozen K7.out 2))
        refine (contraref04_Truth.calls (strOfNums l0) ra e _ _ _ _ _ HJ2.out).mono ?_; rintro x w8 ⟨rfl, hb⟩; have B8 := Aside0.mk (below_step B7.out hb); have R8 := Aside0.mk (R7.out.below hb); have K8 := Aside0.mk (blk_below K7.out hb); have X8 := Aside0.mk (blk_below X7.out hb); clear B7 R7 K7 X7; clear hb xc0 xf0 xc1 xf1 xc2 xf2 kc0 kf0 kc1 kf1 kc2 kf2
        go_wp2_with (first | ((with_reducible refine gate_dst (N := 13) rfl ?_); refine box_event ?hg (N := 13) ?hd (cs := #[.string (⟨#[]⟩ : ByteArray), .int .i64 0, .int .i64 0]) (t := 40) ?hr ?_; (case hd => rfl); (case hg => rfl); (case hr => first | (go_simp; done) | (go_simp; rfl)); intro gy hg w9 hbox hb; have GY := Aside0.mk (show g < gy ∧ gw < gy ∧ gx < gy ∧ w.heap.size ≤ gy from by rw [hg]; exact ⟨R8.out.lt, blk_lt K8.out, blk_lt X8.out, B8.out.size⟩); have Y9 := Aside0.mk hbox; have B9 := Aside0.mk (below_step B8.out hb); have R9 := Aside0.mk (R8.out.below hb); have K9 := Aside0.mk (blk_below K8.out hb); have X9 := Aside0.mk (blk_below X8.out hb); clear B8 R8 K8 X8; have zc0 : w9.cell? ⟨gy, 0, none⟩ = some (.string (⟨#[]⟩ : ByteArray)) := (blk_cell Y9.out 0).trans rfl; have zf0 := blk_frozen Y9.out 0; have zc1 : w9.cell? ⟨gy, 1, none⟩ = some (.int .i64 0) := (blk_cell Y9.out 1).trans rfl; have zf1 := blk_frozen Y9.out 1; have zc2 : w9.cell? ⟨gy, 2, none⟩ = some (.int .i64 0) := (blk_cell Y9.out 2).trans rfl; have zf2 := blk_frozen Y9.out 2; clear hb hg hbox) | ((with_reducible refine gate_dst (N := 80) rfl ?_); have B10 := Aside0.mk (set3_below B9.out GY.out.2.2.2 (.string (strOfNums l0)) (.int .i64 ra2) (.int .i64 e2)); have R10 := Aside0.mk (R9.out.kept (set3_kept w9 gy (.string (strOfNums l0)) (.int .i64 ra2) (.int .i64 e2)) (fun k hk => by subst hk; have := GY.out.1; omega)); have K10 := Aside0.mk (set3_far K9.out (Nat.ne_of_lt GY.out.2.1) (.string (strOfNums l0)) (.int .i64 ra2) (.int .i64 e2)); have X10 := Aside0.mk (set3_far X9.out (Nat.ne_of_lt GY.out.2.2.1) (.string (strOfNums l0)) (.int .i64 ra2) (.int .i64 e2)); have Y10 := Aside0.mk (set3_blk Y9.out (.string (strOfNums l0)) (.int .i64 ra2) (.int .i64 e2)); clear B9 R9 K9 X9 Y9; clear zc0 zf0 zc1 zf1 zc2 zf2; unfold set3 at B10 R10 K10 X10 Y10; generalize (((w9.setCell ⟨gy, 0, none⟩ (.string (strOfNums l0))).setCell ⟨gy, 1, none⟩ (.int .i64 ra2)).setCell ⟨gy, 2, none⟩ (.int .i64 e2)) = w10 at B10 R10 K10 X10 Y10 ⊢; have yc0 : w10.cell? ⟨gy, 0, none⟩ = some (.string (strOfNums l0)) := (blk_cell Y10.out 0).trans rfl; have yf0 := blk_frozen Y10.out 0; have yc1 : w10.cell? ⟨gy, 1, none⟩ = some (.int .i64 ra2) := (blk_cell Y10.out 1).trans rfl; have yf1 := blk_frozen Y10.out 1; have yc2 : w10.cell? ⟨gy, 2, none⟩ = some (.int .i64 e2) := (blk_cell Y10.out 2).trans rfl; have yf2 := blk_frozen Y10.out 2; have kc0 : w10.cell? ⟨gw, 0, none⟩ = some (.string (strOfNums l0)) := (blk_cell K10.out 0).trans rfl; have kf0 := blk_frozen K10.out 0; have kc1 : w10.cell? ⟨gw, 1, none⟩ = some (.int .i64 ra) := (blk_cell K10.out 1).trans rfl; have kf1 := blk_frozen K10.out 1; have kc2 : w10.cell? ⟨gw, 2, none⟩ = some (.int .i64 e) := (blk_cell K10.out 2).trans rfl; have kf2 := blk_frozen K10.out 2))
        have B11 := Aside0.mk (set3_below B10.out GW.out.2 (.string (strOfNums l0)) (.int .i64 ra2) (.int .i64 e2)); have R11 := Aside0.mk (R10.out.kept (set3_kept w10 gw (.string (strOfNums l0)) (.int .i64 ra2) (.int .i64 e2)) (fun k hk => by subst hk; have := GW.out.1; omega)); have K11 := Aside0.mk (set3_blk K10.out (.string (strOfNums l0)) (.int .i64 ra2) (.int .i64 e2)); have X11 := Aside0.mk (set3_far X10.out (Nat.ne_of_gt GX.out.2.1) (.string (strOfNums l0)) (.int .i64 ra2) (.int .i64 e2)); clear B10 R10 K10 X10 Y10 yc0 yf0 yc1 yf1 yc2 yf2 kc0 kf0 kc1 kf1 kc2 kf2; unfold set3 at B11 R11 K11 X11; generalize (((w10.setCell ⟨gw, 0, none⟩ (.string (strOfNums l0))).setCell ⟨gw, 1, none⟩ (.int .i64 ra2)).setCell ⟨gw, 2, none⟩ (.int .i64 e2)) = w11 at B11 R11 K11 X11 ⊢
        refine (rd_Bool R11.out HJ1.out).mono ?_; rintro x w12 ⟨rfl, hR, hb, hk⟩; have B12 := Aside0.mk (B11.out.trans (hb.mono G2.out)); have R12 := Aside0.mk hR; have K12 := Aside0.mk (KeepBut.blk hk K11.out (Nat.ne_of_gt GW.out.1) (by simp));  clear hR hb hk
        go_wp2_with fail
        have HE := Aside0.mk (show code_Reader_Err.f l0 (a2 : Int) e2 = some (e2, (a2 : Int), e2) from rfl)
        refine start_ (n := 5) (S := fun w' => w'.cell? ⟨gw, 2, none⟩ = some (.int .i64 e2)) (ds := []) #[false, false, false, false, false] (by kernel_rfl) rfl rfl (((blk_cell (blk_drew K12.out) 2).trans rfl)) (fun hHeld => ?_)
        refine pure_ (i := 0) (N := some 98) (v := ?_) (a' := ?_) #[true, false, false, false, false] rfl rfl (by kernel_rfl) (fun _ _ _ h => h) (Or.inl ⟨by rfl, ?_⟩) ?_ ?_
        rotate_left
        · intro w'
          go_simp
          with_reducible rfl
        rotate_left
        · simp only [Act.put, List.setIfInBounds_toArray, List.set_cons_zero, List.set_cons_succ, i64_w, i32_w]
          rfl
        refine take_ (i := 2) (N := some 100) (v := ?_) (a' := ?_) #[true, false, true, false, false] rfl rfl (by kernel_rfl) (fun _ _ _ h => h) (Or.inl ⟨by rfl, ?_⟩) hHeld ?_ ?_
        rotate_left
        · intro w' s0
          go_simp
          with_reducible rfl
        rotate_left
        · simp only [Act.put, List.setIfInBounds_toArray, List.set_cons_zero, List.set_cons_succ, i64_w, i32_w]
          rfl
        refine take_ (i := 3) (N := some 101) (v := ?_) (a' := ?_) #[true, false, true, true, false] rfl rfl (by kernel_rfl) (fun _ _ _ h => h) (Or.inl ⟨by rfl, ?_⟩) hHeld ?_ ?_
        rotate_left
        · intro w' s0
          go_simp
          with_reducible rfl
        rotate_left
        · simp only [Act.put, List.setIfInBounds_toArray, List.set_cons_zero, List.set_cons_succ, i64_w, i32_w]
          rfl
        refine one_ (i := 1) (N := some 99) #[true, true, true, true, false] rfl rfl (by kernel_rfl) (by decide) (fun K hK => ?_)
        refine goes_ Try.func15 (by kernel_rfl) rfl #[.pointer (some ⟨g, 0, none⟩)] (by rfl) rfl rfl (by simp only [List.map_toArray, List.map_cons, List.map_nil]; rfl) ?_
        with_reducible refine (rd_Err (w := w12.drew) (R12.out.below (below_drew (Below.refl _ _))) HE.out).mono ?_
        rintro x w20 ⟨rfl, hR, hb, hk⟩
        refine ⟨_, rfl, ?_⟩
        have B20 := Aside0.mk ((below_step B12.out (below_drew (Below.refl _ _))).trans (hb.mono G2.out))
        have R20 := Aside0.mk hR
        have K20 := Aside0.mk (KeepBut.blk hk (blk_drew K12.out) (Nat.ne_of_gt GW.out.1) (by simp))
        clear hR hb hk
        refine hK.out _ _ (((blk_cell K20.out 2).trans rfl)) (fun hHeld => ?_)
        clear hK K
        refine norm_ (a' := ?_) ?_ ?_
        rotate_left
        · show Act.put _ (some 99) _ = _
          simp only [Act.put, List.setIfInBounds_toArray, List.set_cons_zero, List.set_cons_succ, i64_w, i32_w]
          rfl
        refine pure_ (i := 4) (N := some 102) (v := ?_) (a' := ?_) #[true, true, true, true, true] rfl rfl (by kernel_rfl) (fun _ _ _ h => h) (Or.inl ⟨by rfl, ?_⟩) ?_ ?_
        rotate_left
        · intro w'
          go_simp
          with_reducible rfl
        rotate_left
        · simp only [Act.put, List.setIfInBounds_toArray, List.set_cons_zero, List.set_cons_succ, i64_w, i32_w]
          rfl
        refine done_ (by kernel_rfl) ?_
        go_wp2
        go_roundg (gk - 1)
        case measure => have := NK.out.2; omega
        case rel => exact ⟨i + 1, a2, e2, ra2, by rw [b2], ⟨NK.out.1⟩, HT2, R20, K20, B20⟩
      have t2 : (q.f0 == 2) = false := beq_eq_false_iff_ne.mpr hk_
      clear hk_
      by_cases hk_ : q.f0 = 3
      · have t3 : (q.f0 == 3) = true := beq_iff_eq.mpr hk_
        clear hk_
        obtain ⟨t, a2, e2, ra2, hE2, ht2, hE1⟩ := list_pair HB0.out (by have := HL0.out; omega) HT.out
        obtain ⟨j2, hj2⟩ := hE2.rounds
        have HJ1 := Aside0.mk hE1
        have HJ2 := Aside0.mk hj2
        clear hE1 hE2 hj2
        have HT2 := Aside0.mk ht2
        clear ht2
        go_wp2_with (first | ((with_reducible refine gate_dst (N := 8) rfl ?_); refine box_event ?hg (N := 8) ?hd (cs := #[.int .i64 0, .int .i64 0, .int .i64 0]) (t := 42) ?hr ?_; (case hd => rfl); (case hg => rfl); (case hr => first | (go_simp; done) | (go_simp; rfl)); intro gx hg w6 hbox hb; have GX := Aside0.mk (show g < gx ∧ gw < gx ∧ w.heap.size ≤ gx from by rw [hg]; exact ⟨R5.out.lt, blk_lt K5.out, B5.out.size⟩); have B6 := Aside0.mk (below_step B5.out hb); have R6 := Aside0.mk (R5.out.below hb); have K6 := Aside0.mk (blk_below K5.out hb); have X6 := Aside0.mk hbox; clear B5 R5 K5; have zc0 : w6.cell? ⟨gx, 0, none⟩ = some (.int .i64 0) := (blk_cell X6.out 0).trans rfl; have zf0 := blk_frozen X6.out 0; have zc1 : w6.cell? ⟨gx, 1, none⟩ = some (.int .i64 0) := (blk_cell X6.out 1).trans rfl; have zf1 := blk_frozen X6.out 1; have zc2 : w6.cell? ⟨gx, 2, none⟩ = some (.int .i64 0) := (blk_cell X6.out 2).trans rfl; have zf2 := blk_frozen X6.out 2; clear hb hg hbox) | ((with_reducible refine gate_dst (N := 39) rfl ?_); have B7 := Aside0.mk (set3_below B6.out GX.out.2.2 (.int .i64 q.f0) (.int .i64 q.f1) (.int .i64 q.f2)); have R7 := Aside0.mk (R6.out.kept (set3_kept w6 gx (.int .i64 q.f0) (.int .i64 q.f1) (.int .i64 q.f2)) (fun k hk => by subst hk; have := GX.out.1; omega)); have K7 := Aside0.mk (set3_far K6.out (Nat.ne_of_lt GX.out.2.1) (.int .i64 q.f0) (.int .i64 q.f1) (.int .i64 q.f2)); have X7 := Aside0.mk (set3_blk X6.out (.int .i64 q.f0) (.int .i64 q.f1) (.int .i64 q.f2)); clear B6 R6 K6 X6; clear zc0 zf0 zc1 zf1 zc2 zf2; unfold set3 at B7 R7 K7 X7; generalize (((w6.setCell ⟨gx, 0, none⟩ (.int .i64 q.f0)).setCell ⟨gx, 1, none⟩ (.int .i64 q.f1)).setCell ⟨gx, 2, none⟩ (.int .i64 q.f2)) = w7 at B7 R7 K7 X7 ⊢; have xc0 : w7.cell? ⟨gx, 0, none⟩ = some (.int .i64 q.f0) := (blk_cell X7.out 0).trans rfl; have xf0 := blk_frozen X7.out 0; have xc1 : w7.cell? ⟨gx, 1, none⟩ = some (.int .i64 q.f1) := (blk_cell X7.out 1).trans rfl; have xf1 := blk_frozen X7.out 1; have xc2 : w7.cell? ⟨gx, 2, none⟩ = some (.int .i64 q.f2) := (blk_cell X7.out 2).trans rfl; have xf2 := blk_frozen X7.out 2; have kc0 : w7.cell? ⟨gw, 0, none⟩ = some (.string (strOfNums l0)) := (blk_cell K7.out 0).trans rfl; have kf0 := blk_frozen K7.out 0; have kc1 : w7.cell? ⟨gw, 1, none⟩ = some (.int .i64 ra) := (blk_cell K7.out 1).trans rfl; have kf1 := blk_frozen K7.out 1; have kc2 : w7.cell? ⟨gw, 2, none⟩ = some (.int .i64 e) := (blk_cell K7.out 2).trans rfl; have kf2 := blk_frozen K7.out 2))
        refine (contraref04_List.calls j2 (strOfNums l0) ra e _ _ _ _ _ HJ2.out).mono ?_; rintro x w8 ⟨rfl, hb⟩; have B8 := Aside0.mk (below_step B7.out hb); have R8 := Aside0.mk (R7.out.below hb); have K8 := Aside0.mk (blk_below K7.out hb); have X8 := Aside0.mk (blk_below X7.out hb); clear B7 R7 K7 X7; clear hb xc0 xf0 xc1 xf1 xc2 xf2 kc0 kf0 kc1 kf1 kc2 kf2
        go_wp2_with (first | ((with_reducible refine gate_dst (N := 15) rfl ?_); refine box_event ?hg (N := 15) ?hd (cs := #[.string (⟨#[]⟩ : ByteArray), .int .i64 0, .int .i64 0]) (t := 40) ?hr ?_; (case hd => rfl); (case hg => rfl); (case hr => first | (go_simp; done) | (go_simp; rfl)); intro gy hg w9 hbox hb; have GY := Aside0.mk (show g < gy ∧ gw < gy ∧ gx < gy ∧ w.heap.size ≤ gy from by rw [hg]; exact ⟨R8.out.lt, blk_lt K8.out, blk_lt X8.out, B8.out.size⟩); have Y9 := Aside0.mk hbox; have B9 := Aside0.mk (below_step B8.out hb); have R9 := Aside0.mk (R8.out.below hb); have K9 := Aside0.mk (blk_below K8.out hb); have X9 := Aside0.mk (blk_below X8.out hb); clear B8 R8 K8 X8; have zc0 : w9.cell? ⟨gy, 0, none⟩ = some (.string (⟨#[]⟩ : ByteArray)) := (blk_cell Y9.out 0).trans rfl; have zf0 := blk_frozen Y9.out 0; have zc1 : w9.cell? ⟨gy, 1, none⟩ = some (.int .i64 0) := (blk_cell Y9.out 1).trans rfl; have zf1 := blk_frozen Y9.out 1; have zc2 : w9.cell? ⟨gy, 2, none⟩ = some (.int .i64 0) := (blk_cell Y9.out 2).trans rfl; have zf2 := blk_frozen Y9.out 2; clear hb hg hbox) | ((with_reducible refine gate_dst (N := 92) rfl ?_); have B10 := Aside0.mk (set3_below B9.out GY.out.2.2.2 (.string (strOfNums l0)) (.int .i64 ra2) (.int .i64 e2)); have R10 := Aside0.mk (R9.out.kept (set3_kept w9 gy (.string (strOfNums l0)) (.int .i64 ra2) (.int .i64 e2)) (fun k hk => by subst hk; have := GY.out.1; omega)); have K10 := Aside0.mk (set3_far K9.out (Nat.ne_of_lt GY.out.2.1) (.string (strOfNums l0)) (.int .i64 ra2) (.int .i64 e2)); have X10 := Aside0.mk (set3_far X9.out (Nat.ne_of_lt GY.out.2.2.1) (.string (strOfNums l0)) (.int .i64 ra2) (.int .i64 e2)); have Y10 := Aside0.mk (set3_blk Y9.out (.string (strOfNums l0)) (.int .i64 ra2) (.int .i64 e2)); clear B9 R9 K9 X9 Y9; clear zc0 zf0 zc1 zf1 zc2 zf2; unfold set3 at B10 R10 K10 X10 Y10; generalize (((w9.setCell ⟨gy, 0, none⟩ (.string (strOfNums l0))).setCell ⟨gy, 1, none⟩ (.int .i64 ra2)).setCell ⟨gy, 2, none⟩ (.int .i64 e2)) = w10 at B10 R10 K10 X10 Y10 ⊢; have yc0 : w10.cell? ⟨gy, 0, none⟩ = some (.string (strOfNums l0)) := (blk_cell Y10.out 0).trans rfl; have yf0 := blk_frozen Y10.out 0; have yc1 : w10.cell? ⟨gy, 1, none⟩ = some (.int .i64 ra2) := (blk_cell Y10.out 1).trans rfl; have yf1 := blk_frozen Y10.out 1; have yc2 : w10.cell? ⟨gy, 2, none⟩ = some (.int .i64 e2) := (blk_cell Y10.out 2).trans rfl; have yf2 := blk_frozen Y10.out 2; have kc0 : w10.cell? ⟨gw, 0, none⟩ = some (.string (strOfNums l0)) := (blk_cell K10.out 0).trans rfl; have kf0 := blk_frozen K10.out 0; have kc1 : w10.cell? ⟨gw, 1, none⟩ = some (.int .i64 ra) := (blk_cell K10.out 1).trans rfl; have kf1 := blk_frozen K10.out 1; have kc2 : w10.cell? ⟨gw, 2, none⟩ = some (.int .i64 e) := (blk_cell K10.out 2).trans rfl; have kf2 := blk_frozen K10.out 2))
        have B11 := Aside0.mk (set3_below B10.out GW.out.2 (.string (strOfNums l0)) (.int .i64 ra2) (.int .i64 e2)); have R11 := Aside0.mk (R10.out.kept (set3_kept w10 gw (.string (strOfNums l0)) (.int .i64 ra2) (.int .i64 e2)) (fun k hk => by subst hk; have := GW.out.1; omega)); have K11 := Aside0.mk (set3_blk K10.out (.string (strOfNums l0)) (.int .i64 ra2) (.int .i64 e2)); have X11 := Aside0.mk (set3_far X10.out (Nat.ne_of_gt GX.out.2.1) (.string (strOfNums l0)) (.int .i64 ra2) (.int .i64 e2)); clear B10 R10 K10 X10 Y10 yc0 yf0 yc1 yf1 yc2 yf2 kc0 kf0 kc1 kf1 kc2 kf2; unfold set3 at B11 R11 K11 X11; generalize (((w10.setCell ⟨gw, 0, none⟩ (.string (strOfNums l0))).setCell ⟨gw, 1, none⟩ (.int .i64 ra2)).setCell ⟨gw, 2, none⟩ (.int .i64 e2)) = w11 at B11 R11 K11 X11 ⊢
        refine (HJ1.out 0 w11 g R11.out).mono ?_; rintro x w12 ⟨v12, rfl, ho, hR, hb, hk⟩; have B12 := Aside0.mk (B11.out.trans (hb.mono G2.out)); have R12 := Aside0.mk hR; have K12 := Aside0.mk (KeepBut.blk hk K11.out (Nat.ne_of_gt GW.out.1) (by simp));  have hcw := own_string (P := Try.prog) Try.underlying22 Try.underlying5 Try.underlying9 (Kd.own_of_R ho); clear hR hb hk ho
        go_wp2_with fail
        have HE := Aside0.mk (show code_Reader_Err.f l0 (a2 : Int) e2 = some (e2, (a2 : Int), e2) from rfl)
        refine start_ (n := 5) (S := fun w' => w'.cell? ⟨gw, 2, none⟩ = some (.int .i64 e2)) (ds := []) #[false, false, false, false, false] (by kernel_rfl) rfl rfl (((blk_cell (blk_drew K12.out) 2).trans rfl)) (fun hHeld => ?_)
        refine pure_ (i := 0) (N := some 98) (v := ?_) (a' := ?_) #[true, false, false, false, false] rfl rfl (by kernel_rfl) (fun _ _ _ h => h) (Or.inl ⟨by rfl, ?_⟩) ?_ ?_
        rotate_left
        · intro w'
          go_simp
          with_reducible rfl
        rotate_left
        · simp only [Act.put, List.setIfInBounds_toArray, List.set_cons_zero, List.set_cons_succ, i64_w, i32_w]
          rfl
        refine take_ (i := 2) (N := some 100) (v := ?_) (a' := ?_) #[true, false, true, false, false] rfl rfl (by kernel_rfl) (fun _ _ _ h => h) (Or.inl ⟨by rfl, ?_⟩) hHeld ?_ ?_
        rotate_left
        · intro w' s0
          go_simp
          with_reducible rfl
        rotate_left
        · simp only [Act.put, List.setIfInBounds_toArray, List.set_cons_zero, List.set_cons_succ, i64_w, i32_w]
          rfl
        refine take_ (i := 3) (N := some 101) (v := ?_) (a' := ?_) #[true, false, true, true, false] rfl rfl (by kernel_rfl) (fun _ _ _ h => h) (Or.inl ⟨by rfl, ?_⟩) hHeld ?_ ?_
        rotate_left
        · intro w' s0
          go_simp
          with_reducible rfl
        rotate_left
        · simp only [Act.put, List.setIfInBounds_toArray, List.set_cons_zero, List.set_cons_succ, i64_w, i32_w]
          rfl
        refine one_ (i := 1) (N := some 99) #[true, true, true, true, false] rfl rfl (by kernel_rfl) (by decide) (fun K hK => ?_)
        refine goes_ Try.func15 (by kernel_rfl) rfl #[.pointer (some ⟨g, 0, none⟩)] (by rfl) rfl rfl (by simp only [List.map_toArray, List.map_cons, List.map_nil]; rfl) ?_
        with_reducible refine (rd_Err (w := w12.drew) (R12.out.below (below_drew (Below.refl _ _))) HE.out).mono ?_
        rintro x w20 ⟨rfl, hR, hb, hk⟩
        refine ⟨_, rfl, ?_⟩
        have B20 := Aside0.mk ((below_step B12.out (below_drew (Below.refl _ _))).trans (hb.mono G2.out))
        have R20 := Aside0.mk hR
        have K20 := Aside0.mk (KeepBut.blk hk (blk_drew K12.out) (Nat.ne_of_gt GW.out.1) (by simp))
        clear hR hb hk
        refine hK.out _ _ (((blk_cell K20.out 2).trans rfl)) (fun hHeld => ?_)
        clear hK K
        refine norm_ (a' := ?_) ?_ ?_
        rotate_left
        · show Act.put _ (some 99) _ = _
          simp only [Act.put, List.setIfInBounds_toArray, List.set_cons_zero, List.set_cons_succ, i64_w, i32_w]
          rfl
        refine pure_ (i := 4) (N := some 102) (v := ?_) (a' := ?_) #[true, true, true, true, true] rfl rfl (by kernel_rfl) (fun _ _ _ h => h) (Or.inl ⟨by rfl, ?_⟩) ?_ ?_
        rotate_left
        · intro w'
          go_simp
          with_reducible rfl
        rotate_left
        · simp only [Act.put, List.setIfInBounds_toArray, List.set_cons_zero, List.set_cons_succ, i64_w, i32_w]
          rfl
        refine done_ (by kernel_rfl) ?_
        go_wp2
        go_roundg (gk - 1)
        case measure => have := NK.out.2; omega
        case rel => exact ⟨i + 1, a2, e2, ra2, by rw [b2], ⟨NK.out.1⟩, HT2, R20, K20, B20⟩
      have t3 : (q.f0 == 3) = false := beq_eq_false_iff_ne.mpr hk_
      clear hk_
      go_wp2_with (first | ((with_reducible refine gate_dst (N := 8) rfl ?_); refine box_event ?hg (N := 8) ?hd (cs := #[.int .i64 0, .int .i64 0, .int .i64 0]) (t := 42) ?hr ?_; (case hd => rfl); (case hg => rfl); (case hr => first | (go_simp; done) | (go_simp; rfl)); intro gx hg w6 hbox hb; have GX := Aside0.mk (show g < gx ∧ gw < gx ∧ w.heap.size ≤ gx from by rw [hg]; exact ⟨R5.out.lt, blk_lt K5.out, B5.out.size⟩); have B6 := Aside0.mk (below_step B5.out hb); have R6 := Aside0.mk (R5.out.below hb); have K6 := Aside0.mk (blk_below K5.out hb); have X6 := Aside0.mk hbox; clear B5 R5 K5; have zc0 : w6.cell? ⟨gx, 0, none⟩ = some (.int .i64 0) := (blk_cell X6.out 0).trans rfl; have zf0 := blk_frozen X6.out 0; have zc1 : w6.cell? ⟨gx, 1, none⟩ = some (.int .i64 0) := (blk_cell X6.out 1).trans rfl; have zf1 := blk_frozen X6.out 1; have zc2 : w6.cell? ⟨gx, 2, none⟩ = some (.int .i64 0) := (blk_cell X6.out 2).trans rfl; have zf2 := blk_frozen X6.out 2; clear hb hg hbox) | ((with_reducible refine gate_dst (N := 39) rfl ?_); have B7 := Aside0.mk (set3_below B6.out GX.out.2.2 (.int .i64 q.f0) (.int .i64 q.f1) (.int .i64 q.f2)); have R7 := Aside0.mk (R6.out.kept (set3_kept w6 gx (.int .i64 q.f0) (.int .i64 q.f1) (.int .i64 q.f2)) (fun k hk => by subst hk; have := GX.out.1; omega)); have K7 := Aside0.mk (set3_far K6.out (Nat.ne_of_lt GX.out.2.1) (.int .i64 q.f0) (.int .i64 q.f1) (.int .i64 q.f2)); have X7 := Aside0.mk (set3_blk X6.out (.int .i64 q.f0) (.int .i64 q.f1) (.int .i64 q.f2)); clear B6 R6 K6 X6; clear zc0 zf0 zc1 zf1 zc2 zf2; unfold set3 at B7 R7 K7 X7; generalize (((w6.setCell ⟨gx, 0, none⟩ (.int .i64 q.f0)).setCell ⟨gx, 1, none⟩ (.int .i64 q.f1)).setCell ⟨gx, 2, none⟩ (.int .i64 q.f2)) = w7 at B7 R7 K7 X7 ⊢; have xc0 : w7.cell? ⟨gx, 0, none⟩ = some (.int .i64 q.f0) := (blk_cell X7.out 0).trans rfl; have xf0 := blk_frozen X7.out 0; have xc1 : w7.cell? ⟨gx, 1, none⟩ = some (.int .i64 q.f1) := (blk_cell X7.out 1).trans rfl; have xf1 := blk_frozen X7.out 1; have xc2 : w7.cell? ⟨gx, 2, none⟩ = some (.int .i64 q.f2) := (blk_cell X7.out 2).trans rfl; have xf2 := blk_frozen X7.out 2; have kc0 : w7.cell? ⟨gw, 0, none⟩ = some (.string (strOfNums l0)) := (blk_cell K7.out 0).trans rfl; have kf0 := blk_frozen K7.out 0; have kc1 : w7.cell? ⟨gw, 1, none⟩ = some (.int .i64 ra) := (blk_cell K7.out 1).trans rfl; have kf1 := blk_frozen K7.out 1; have kc2 : w7.cell? ⟨gw, 2, none⟩ = some (.int .i64 e) := (blk_cell K7.out 2).trans rfl; have kf2 := blk_frozen K7.out 2))
      have HT2 := HT
      have HE := Aside0.mk (show code_Reader_Err.f l0 (a : Int) e = some (e, (a : Int), e) from rfl)
      refine start_ (n := 5) (S := fun w' => w'.cell? ⟨gw, 2, none⟩ = some (.int .i64 e)) (ds := []) #[false, false, false, false, false] (by kernel_rfl) rfl rfl (((blk_cell (blk_drew K7.out) 2).trans rfl)) (fun hHeld => ?_)
      refine pure_ (i := 0) (N := some 98) (v := ?_) (a' := ?_) #[true, false, false, false, false] rfl rfl (by kernel_rfl) (fun _ _ _ h => h) (Or.inl ⟨by rfl, ?_⟩) ?_ ?_
      rotate_left
      · intro w'
        go_simp
        with_reducible rfl
      rotate_left
      · simp only [Act.put, List.setIfInBounds_toArray, List.set_cons_zero, List.set_cons_succ, i64_w, i32_w]
        rfl
      refine take_ (i := 2) (N := some 100) (v := ?_) (a' := ?_) #[true, false, true, false, false] rfl rfl (by kernel_rfl) (fun _ _ _ h => h) (Or.inl ⟨by rfl, ?_⟩) hHeld ?_ ?_
      rotate_left
      · intro w' s0
        go_simp
        with_reducible rfl
      rotate_left
      · simp only [Act.put, List.setIfInBounds_toArray, List.set_cons_zero, List.set_cons_succ, i64_w, i32_w]
        rfl
      refine take_ (i := 3) (N := some 101) (v := ?_) (a' := ?_) #[true, false, true, true, false] rfl rfl (by kernel_rfl) (fun _ _ _ h => h) (Or.inl ⟨by rfl, ?_⟩) hHeld ?_ ?_
      rotate_left
      · intro w' s0
        go_simp
        with_reducible rfl
      rotate_left
      · simp only [Act.put, List.setIfInBounds_toArray, List.set_cons_zero, List.set_cons_succ, i64_w, i32_w]
        rfl
      refine one_ (i := 1) (N := some 99) #[true, true, true, true, false] rfl rfl (by kernel_rfl) (by decide) (fun K hK => ?_)
      refine goes_ Try.func15 (by kernel_rfl) rfl #[.pointer (some ⟨g, 0, none⟩)] (by rfl) rfl rfl (by simp only [List.map_toArray, List.map_cons, List.map_nil]; rfl) ?_
      with_reducible refine (rd_Err (w := w7.drew) (R7.out.below (below_drew (Below.refl _ _))) HE.out).mono ?_
      rintro x w20 ⟨rfl, hR, hb, hk⟩
      refine ⟨_, rfl, ?_⟩
      have B20 := Aside0.mk ((below_step B7.out (below_drew (Below.refl _ _))).trans (hb.mono G2.out))
      have R20 := Aside0.mk hR
      have K20 := Aside0.mk (KeepBut.blk hk (blk_drew K7.out) (Nat.ne_of_gt GW.out.1) (by simp))
      clear hR hb hk
      refine hK.out _ _ (((blk_cell K20.out 2).trans rfl)) (fun hHeld => ?_)
      clear hK K
      refine norm_ (a' := ?_) ?_ ?_
      rotate_left
      · show Act.put _ (some 99) _ = _
        simp only [Act.put, List.setIfInBounds_toArray, List.set_cons_zero, List.set_cons_succ, i64_w, i32_w]
        rfl
      refine pure_ (i := 4) (N := some 102) (v := ?_) (a' := ?_) #[true, true, true, true, true] rfl rfl (by kernel_rfl) (fun _ _ _ h => h) (Or.inl ⟨by rfl, ?_⟩) ?_ ?_
      rotate_left
      · intro w'
        go_simp
        with_reducible rfl
      rotate_left
      · simp only [Act.put, List.setIfInBounds_toArray, List.set_cons_zero, List.set_cons_succ, i64_w, i32_w]
        rfl
      refine done_ (by kernel_rfl) ?_
      go_wp2
      go_roundg (gk - 1)
      case measure => have := NK.out.2; omega
      case rel => exact ⟨i + 1, a, e, ra, by rw [b2], ⟨NK.out.1⟩, HT2, R20, K20, B20⟩
    · have d1 : decide ((i : Int) < (l1.length : Int)) = false := decide_eq_false (by omega)
      obtain rfl : i = l1.length := by have := HI.out; omega
      have HLf := Aside0.mk (left_f l0 a e HT.out.le (by have := HL0.out; omega))
      obtain ⟨e3, hE3, hE4, hz⟩ := end_pair (by have := HL0.out; omega) HT.out
      have HE3 := Aside0.mk hE3
      have HE4 := Aside0.mk hE4
      clear hE3 hE4 hi
      go_wp2_with fail
      refine (rd_Left R5.out HLf.out).mono ?_; rintro x w6 ⟨rfl, hR, hb, hk⟩; have B6 := Aside0.mk (B5.out.trans (hb.mono G2.out)); have R6 := Aside0.mk hR; have K6 := Aside0.mk (KeepBut.blk hk K5.out (Nat.ne_of_gt GW.out.1) (by simp)); clear hR hb hk
      have kc0 : w6.cell? ⟨gw, 0, none⟩ = some (.string (strOfNums l0)) := (blk_cell K6.out 0).trans rfl; have kf0 := blk_frozen K6.out 0; have kc1 : w6.cell? ⟨gw, 1, none⟩ = some (.int .i64 ra) := (blk_cell K6.out 1).trans rfl; have kf1 := blk_frozen K6.out 1; have kc2 : w6.cell? ⟨gw, 2, none⟩ = some (.int .i64 e) := (blk_cell K6.out 2).trans rfl; have kf2 := blk_frozen K6.out 2
      go_wp2_with fail
      refine (contraref04_End.calls (strOfNums l0) ra e _ _ _ w6 HE4.out).mono ?_; rintro x w7 ⟨rfl, hb⟩; have B7 := Aside0.mk (below_step B6.out hb); have R7 := Aside0.mk (R6.out.below hb); have K7 := Aside0.mk (blk_below K6.out hb); clear hb kc0 kf0 kc1 kf1 kc2 kf2
      have kc0 : w7.cell? ⟨gw, 0, none⟩ = some (.string (strOfNums l0)) := (blk_cell K7.out 0).trans rfl; have kf0 := blk_frozen K7.out 0; have kc1 : w7.cell? ⟨gw, 1, none⟩ = some (.int .i64 ra) := (blk_cell K7.out 1).trans rfl; have kf1 := blk_frozen K7.out 1; have kc2 : w7.cell? ⟨gw, 2, none⟩ = some (.int .i64 e) := (blk_cell K7.out 2).trans rfl; have kf2 := blk_frozen K7.out 2
      go_wp2_with fail
      have B8 := Aside0.mk (set3_below B7.out GW.out.2 (.string (strOfNums l0)) (.int .i64 ra) (.int .i64 e3)); have R8 := Aside0.mk (R7.out.kept (set3_kept w7 gw (.string (strOfNums l0)) (.int .i64 ra) (.int .i64 e3)) (fun k hk => by subst hk; have := GW.out.1; omega)); have K8 := Aside0.mk (set3_blk K7.out (.string (strOfNums l0)) (.int .i64 ra) (.int .i64 e3)); clear B7 R7 K7 kc0 kc1 kc2 kf0 kf1 kf2; unfold set3 at B8 R8 K8; generalize (((w7.setCell ⟨gw, 0, none⟩ (.string (strOfNums l0))).setCell ⟨gw, 1, none⟩ (.int .i64 ra)).setCell ⟨gw, 2, none⟩ (.int .i64 e3)) = w8 at B8 R8 K8 ⊢
      by_cases he3 : e3 = 0
      · have z1 : (e3 != 0) = false := bne_eq_false_iff_eq.mpr he3
        have z2 : ((l0.length - a : Nat) : Int) = 0 := by have := hz he3; omega
        rw [z2]
        clear hz z2 he3
        refine start_ (n := 15) (S := fun w' => w'.cell? ⟨gw, 2, none⟩ = some (.int .i64 e3)) (ds := []) #[false, false, false, false, false, false, false, false, false, false, false, false, false, false, false] (by kernel_rfl) rfl rfl (((blk_cell (blk_drew K8.out) 2).trans rfl)) (fun hHeld => ?_)
        refine pure_ (i := 0) (N := some 108) (v := ?_) (a' := ?_) #[true, false, false, false, false, false, false, false, false, false, false, false, false, false, false] rfl rfl (by kernel_rfl) (fun _ _ _ h => h) (Or.inl ⟨by rfl, ?_⟩) ?_ ?_
        rotate_left
        · intro w'
          go_simp
          with_reducible rfl
        rotate_left
        · simp only [Act.put, List.setIfInBounds_toArray, List.set_cons_zero, List.set_cons_succ, i64_w, i32_w]
          rfl
        refine take_ (i := 2) (N := some 110) (v := ?_) (a' := ?_) #[true, false, true, false, false, false, false, false, false, false, false, false, false, false, false] rfl rfl (by kernel_rfl) (fun _ _ _ h => h) (Or.inl ⟨by rfl, ?_⟩) hHeld ?_ ?_
        rotate_left
        · intro w' s0
          go_simp
          with_reducible rfl
        rotate_left
        · simp only [Act.put, List.setIfInBounds_toArray, List.set_cons_zero, List.set_cons_succ, i64_w, i32_w]
          rfl
        refine take_ (i := 3) (N := some 111) (v := ?_) (a' := ?_) #[true, false, true, true, false, false, false, false, false, false, false, false, false, false, false] rfl rfl (by kernel_rfl) (fun _ _ _ h => h) (Or.inl ⟨by rfl, ?_⟩) hHeld ?_ ?_
        rotate_left
        · intro w' s0
          go_simp
          with_reducible rfl
        rotate_left
        · simp only [Act.put, List.setIfInBounds_toArray, List.set_cons_zero, List.set_cons_succ, i64_w, i32_w]
          rfl
        refine one_ (i := 1) (N := some 109) #[true, true, true, true, false, false, false, false, false, false, false, false, false, false, false] rfl rfl (by kernel_rfl) (by decide) (fun K hK => ?_)
        refine goes_ Try.func17 (by kernel_rfl) rfl #[.pointer (some ⟨g, 0, none⟩)] (by rfl) rfl rfl (by simp only [List.map_toArray, List.map_cons, List.map_nil]; rfl) ?_
        with_reducible refine (rd_End (w := w8.drew) (R8.out.below (below_drew (Below.refl _ _))) HE3.out).mono ?_
        rintro x w20 ⟨rfl, hR, hb, hk⟩
        refine ⟨_, rfl, ?_⟩
        have B20 := Aside0.mk ((below_step B8.out (below_drew (Below.refl _ _))).trans (hb.mono G2.out))
        have K20 := Aside0.mk (KeepBut.blk hk (blk_drew K8.out) (Nat.ne_of_gt GW.out.1) (by simp))
        clear hR hb hk
        refine hK.out _ _ (((blk_cell K20.out 2).trans rfl)) (fun hHeld => ?_)
        clear hK K
        refine norm_ (a' := ?_) ?_ ?_
        rotate_left
        · show Act.put _ (some 109) _ = _
          simp only [Act.put, List.setIfInBounds_toArray, List.set_cons_zero, List.set_cons_succ, i64_w, i32_w]
          rfl
        refine pure_ (i := 4) (N := some 112) (v := ?_) (a' := ?_) #[true, true, true, true, true, false, false, false, false, false, false, false, false, false, false] rfl rfl (by kernel_rfl) (fun _ _ _ h => h) (Or.inl ⟨by rfl, ?_⟩) ?_ ?_
        rotate_left
        · intro w'
          go_simp
          with_reducible rfl
        rotate_left
        · simp only [Act.put, List.setIfInBounds_toArray, List.set_cons_zero, List.set_cons_succ, i64_w, i32_w]
          rfl
        refine pure_ (i := 5) (N := some 113) (v := ?_) (a' := ?_) #[true, true, true, true, true, true, false, false, false, false, false, false, false, false, false] rfl rfl (by kernel_rfl) (fun _ _ _ h => h) (Or.inl ⟨by rfl, ?_⟩) ?_ ?_
        rotate_left
        · intro w'
          go_simp
          with_reducible rfl
        rotate_left
        · simp only [Act.put, List.setIfInBounds_toArray, List.set_cons_zero, List.set_cons_succ, i64_w, i32_w]
          rfl
        refine take_ (i := 6) (N := some 114) (v := ?_) (a' := ?_) #[true, true, true, true, true, true, true, false, false, false, false, false, false, false, false] rfl rfl (by kernel_rfl) (fun _ _ _ h => h) (Or.inl ⟨by rfl, ?_⟩) hHeld ?_ ?_
        rotate_left
        · intro w' s0
          go_simp
          with_reducible rfl
        rotate_left
        · simp only [Act.put, List.setIfInBounds_toArray, List.set_cons_zero, List.set_cons_succ, i64_w, i32_w]
          rfl
        refine take_ (i := 7) (N := some 115) (v := ?_) (a' := ?_) #[true, true, true, true, true, true, true, true, false, false, false, false, false, false, false] rfl rfl (by kernel_rfl) (fun _ _ _ h => h) (Or.inl ⟨by rfl, ?_⟩) hHeld ?_ ?_
        rotate_left
        · intro w' s0
          go_simp
          with_reducible rfl
        rotate_left
        · simp only [Act.put, List.setIfInBounds_toArray, List.set_cons_zero, List.set_cons_succ, i64_w, i32_w]
          rfl
        refine pure_ (i := 8) (N := some 116) (v := ?_) (a' := ?_) #[true, true, true, true, true, true, true, true, true, false, false, false, false, false, false] rfl rfl (by kernel_rfl) (fun _ _ _ h => h) (Or.inl ⟨by rfl, ?_⟩) ?_ ?_
        rotate_left
        · intro w'
          go_simp
          with_reducible rfl
        rotate_left
        · simp only [Act.put, List.setIfInBounds_toArray, List.set_cons_zero, List.set_cons_succ, i64_w, i32_w]
          rfl
        refine pure_ (i := 9) (N := some 117) (v := ?_) (a' := ?_) #[true, true, true, true, true, true, true, true, true, true, false, false, false, false, false] rfl rfl (by kernel_rfl) (fun _ _ _ h => h) (Or.inl ⟨by rfl, ?_⟩) ?_ ?_
        rotate_left
        · intro w'
          go_simp
          with_reducible rfl
        rotate_left
        · simp only [Act.put, List.setIfInBounds_toArray, List.set_cons_zero, List.set_cons_succ, i64_w, i32_w]
          rfl
        refine pure_ (i := 10) (N := some 118) (v := ?_) (a' := ?_) #[true, true, true, true, true, true, true, true, true, true, true, false, false, false, false] rfl rfl (by kernel_rfl) (fun _ _ _ h => h) (Or.inl ⟨by rfl, ?_⟩) ?_ ?_
        rotate_left
        · intro w'
          go_simp
          with_reducible rfl
        rotate_left
        · simp only [Act.put, List.setIfInBounds_toArray, List.set_cons_zero, List.set_cons_succ, i64_w, i32_w]
          rfl
        refine pure_ (i := 11) (N := some 119) (v := ?_) (a' := ?_) #[true, true, true, true, true, true, true, true, true, true, true, true, false, false, false] rfl rfl (by kernel_rfl) (fun _ _ _ h => h) (Or.inl ⟨by rfl, ?_⟩) ?_ ?_
        rotate_left
        · intro w'
          go_simp
          with_reducible rfl
        rotate_left
        · simp only [Act.put, List.setIfInBounds_toArray, List.set_cons_zero, List.set_cons_succ, i64_w, i32_w]
          rfl
        refine pure_ (i := 12) (N := some 120) (v := ?_) (a' := ?_) #[true, true, true, true, true, true, true, true, true, true, true, true, true, false, false] rfl rfl (by kernel_rfl) (fun _ _ _ h => h) (Or.inl ⟨by rfl, ?_⟩) ?_ ?_
        rotate_left
        · intro w'
          go_simp
          with_reducible rfl
        rotate_left
        · simp only [Act.put, List.setIfInBounds_toArray, List.set_cons_zero, List.set_cons_succ, i64_w, i32_w]
          rfl
        refine pure_ (i := 13) (N := some 121) (v := ?_) (a' := ?_) #[true, true, true, true, true, true, true, true, true, true, true, true, true, true, false] rfl rfl (by kernel_rfl) (fun _ _ _ h => h) (Or.inl ⟨by rfl, ?_⟩) ?_ ?_
        rotate_left
        · intro w'
          go_simp
          with_reducible rfl
        rotate_left
        · simp only [Act.put, List.setIfInBounds_toArray, List.set_cons_zero, List.set_cons_succ, i64_w, i32_w]
          rfl
        refine pure_ (i := 14) (N := some 4) (v := ?_) (a' := ?_) #[true, true, true, true, true, true, true, true, true, true, true, true, true, true, true] rfl rfl (by kernel_rfl) (fun _ _ _ h => h) (Or.inl ⟨by rfl, ?_⟩) ?_ ?_
        rotate_left
        · intro w'
          go_simp
          with_reducible rfl
        rotate_left
        · simp only [Act.put, List.setIfInBounds_toArray, List.set_cons_zero, List.set_cons_succ, i64_w, i32_w]
          rfl
        refine done_ (by kernel_rfl) ?_
        go_wp2
        go_ret
        exact ⟨rfl, B20.out⟩
      · have z1 : (e3 != 0) = true := bne_iff_ne.mpr he3
        clear hz he3
        refine start_ (n := 15) (S := fun w' => w'.cell? ⟨gw, 2, none⟩ = some (.int .i64 e3)) (ds := []) #[false, false, false, false, false, false, false, false, false, false, false, false, false, false, false] (by kernel_rfl) rfl rfl (((blk_cell (blk_drew K8.out) 2).trans rfl)) (fun hHeld => ?_)
        refine pure_ (i := 0) (N := some 108) (v := ?_) (a' := ?_) #[true, false, false, false, false, false, false, false, false, false, false, false, false, false, false] rfl rfl (by kernel_rfl) (fun _ _ _ h => h) (Or.inl ⟨by rfl, ?_⟩) ?_ ?_
        rotate_left
        · intro w'
          go_simp
          with_reducible rfl
        rotate_left
        · simp only [Act.put, List.setIfInBounds_toArray, List.set_cons_zero, List.set_cons_succ, i64_w, i32_w]
          rfl
        refine take_ (i := 2) (N := some 110) (v := ?_) (a' := ?_) #[true, false, true, false, false, false, false, false, false, false, false, false, false, false, false] rfl rfl (by kernel_rfl) (fun _ _ _ h => h) (Or.inl ⟨by rfl, ?_⟩) hHeld ?_ ?_
        rotate_left
        · intro w' s0
          go_simp
          with_reducible rfl
        rotate_left
        · simp only [Act.put, List.setIfInBounds_toArray, List.set_cons_zero, List.set_cons_succ, i64_w, i32_w]
          rfl
        refine take_ (i := 3) (N := some 111) (v := ?_) (a' := ?_) #[true, false, true, true, false, false, false, false, false, false, false, false, false, false, false] rfl rfl (by kernel_rfl) (fun _ _ _ h => h) (Or.inl ⟨by rfl, ?_⟩) hHeld ?_ ?_
        rotate_left
        · intro w' s0
          go_simp
          with_reducible rfl
        rotate_left
        · simp only [Act.put, List.setIfInBounds_toArray, List.set_cons_zero, List.set_cons_succ, i64_w, i32_w]
          rfl
        refine one_ (i := 1) (N := some 109) #[true, true, true, true, false, false, false, false, false, false, false, false, false, false, false] rfl rfl (by kernel_rfl) (by decide) (fun K hK => ?_)
        refine goes_ Try.func17 (by kernel_rfl) rfl #[.pointer (some ⟨g, 0, none⟩)] (by rfl) rfl rfl (by simp only [List.map_toArray, List.map_cons, List.map_nil]; rfl) ?_
        with_reducible refine (rd_End (w := w8.drew) (R8.out.below (below_drew (Below.refl _ _))) HE3.out).mono ?_
        rintro x w20 ⟨rfl, hR, hb, hk⟩
        refine ⟨_, rfl, ?_⟩
        have B20 := Aside0.mk ((below_step B8.out (below_drew (Below.refl _ _))).trans (hb.mono G2.out))
        have K20 := Aside0.mk (KeepBut.blk hk (blk_drew K8.out) (Nat.ne_of_gt GW.out.1) (by simp))
        clear hR hb hk
        refine hK.out _ _ (((blk_cell K20.out 2).trans rfl)) (fun hHeld => ?_)
        clear hK K
        refine norm_ (a' := ?_) ?_ ?_
        rotate_left
        · show Act.put _ (some 109) _ = _
          simp only [Act.put, List.setIfInBounds_toArray, List.set_cons_zero, List.set_cons_succ, i64_w, i32_w]
          rfl
        refine pure_ (i := 4) (N := some 112) (v := ?_) (a' := ?_) #[true, true, true, true, true, false, false, false, false, false, false, false, false, false, false] rfl rfl (by kernel_rfl) (fun _ _ _ h => h) (Or.inl ⟨by rfl, ?_⟩) ?_ ?_
        rotate_left
        · intro w'
          go_simp
          with_reducible rfl
        rotate_left
        · simp only [Act.put, List.setIfInBounds_toArray, List.set_cons_zero, List.set_cons_succ, i64_w, i32_w]
          rfl
        refine pure_ (i := 5) (N := some 113) (v := ?_) (a' := ?_) #[true, true, true, true, true, true, false, false, false, false, false, false, false, false, false] rfl rfl (by kernel_rfl) (fun _ _ _ h => h) (Or.inl ⟨by rfl, ?_⟩) ?_ ?_
        rotate_left
        · intro w'
          go_simp
          with_reducible rfl
        rotate_left
        · simp only [Act.put, List.setIfInBounds_toArray, List.set_cons_zero, List.set_cons_succ, i64_w, i32_w]
          rfl
        refine take_ (i := 6) (N := some 114) (v := ?_) (a' := ?_) #[true, true, true, true, true, true, true, false, false, false, false, false, false, false, false] rfl rfl (by kernel_rfl) (fun _ _ _ h => h) (Or.inl ⟨by rfl, ?_⟩) hHeld ?_ ?_
        rotate_left
        · intro w' s0
          go_simp
          with_reducible rfl
        rotate_left
        · simp only [Act.put, List.setIfInBounds_toArray, List.set_cons_zero, List.set_cons_succ, i64_w, i32_w]
          rfl
        refine take_ (i := 7) (N := some 115) (v := ?_) (a' := ?_) #[true, true, true, true, true, true, true, true, false, false, false, false, false, false, false] rfl rfl (by kernel_rfl) (fun _ _ _ h => h) (Or.inl ⟨by rfl, ?_⟩) hHeld ?_ ?_
        rotate_left
        · intro w' s0
          go_simp
          with_reducible rfl
        rotate_left
        · simp only [Act.put, List.setIfInBounds_toArray, List.set_cons_zero, List.set_cons_succ, i64_w, i32_w]
          rfl
        refine pure_ (i := 8) (N := some 116) (v := ?_) (a' := ?_) #[true, true, true, true, true, true, true, true, true, false, false, false, false, false, false] rfl rfl (by kernel_rfl) (fun _ _ _ h => h) (Or.inl ⟨by rfl, ?_⟩) ?_ ?_
        rotate_left
        · intro w'
          go_simp
          with_reducible rfl
        rotate_left
        · simp only [Act.put, List.setIfInBounds_toArray, List.set_cons_zero, List.set_cons_succ, i64_w, i32_w]
          rfl
        refine pure_ (i := 9) (N := some 117) (v := ?_) (a' := ?_) #[true, true, true, true, true, true, true, true, true, true, false, false, false, false, false] rfl rfl (by kernel_rfl) (fun _ _ _ h => h) (Or.inl ⟨by rfl, ?_⟩) ?_ ?_
        rotate_left
        · intro w'
          go_simp
          with_reducible rfl
        rotate_left
        · simp only [Act.put, List.setIfInBounds_toArray, List.set_cons_zero, List.set_cons_succ, i64_w, i32_w]
          rfl
        refine pure_ (i := 10) (N := some 118) (v := undef) (a' := ?_) #[true, true, true, true, true, true, true, true, true, true, true, false, false, false, false] rfl rfl (by kernel_rfl) (fun _ _ _ h => h) (Or.inr ⟨by rfl, rfl⟩) ?_ ?_
        rotate_left
        · simp only [Act.put, List.setIfInBounds_toArray, List.set_cons_zero, List.set_cons_succ, i64_w, i32_w]
          rfl
        refine pure_ (i := 11) (N := some 119) (v := undef) (a' := ?_) #[true, true, true, true, true, true, true, true, true, true, true, true, false, false, false] rfl rfl (by kernel_rfl) (fun _ _ _ h => h) (Or.inr ⟨by rfl, rfl⟩) ?_ ?_
        rotate_left
        · simp only [Act.put, List.setIfInBounds_toArray, List.set_cons_zero, List.set_cons_succ, i64_w, i32_w]
          rfl
        refine pure_ (i := 12) (N := some 120) (v := ?_) (a' := ?_) #[true, true, true, true, true, true, true, true, true, true, true, true, true, false, false] rfl rfl (by kernel_rfl) (fun _ _ _ h => h) (Or.inl ⟨by rfl, ?_⟩) ?_ ?_
        rotate_left
        · intro w'
          go_simp
          with_reducible rfl
        rotate_left
        · simp only [Act.put, List.setIfInBounds_toArray, List.set_cons_zero, List.set_cons_succ, i64_w, i32_w]
          rfl
        refine pure_ (i := 13) (N := some 121) (v := ?_) (a' := ?_) #[true, true, true, true, true, true, true, true, true, true, true, true, true, true, false] rfl rfl (by kernel_rfl) (fun _ _ _ h => h) (Or.inl ⟨by rfl, ?_⟩) ?_ ?_
        rotate_left
        · intro w'
          go_simp
          with_reducible rfl
        rotate_left
        · simp only [Act.put, List.setIfInBounds_toArray, List.set_cons_zero, List.set_cons_succ, i64_w, i32_w]
          rfl
        refine pure_ (i := 14) (N := some 4) (v := ?_) (a' := ?_) #[true, true, true, true, true, true, true, true, true, true, true, true, true, true, true] rfl rfl (by kernel_rfl) (fun _ _ _ h => h) (Or.inl ⟨by rfl, ?_⟩) ?_ ?_
        rotate_left
        · intro w'
          go_simp
          with_reducible rfl
        rotate_left
        · simp only [Act.put, List.setIfInBounds_toArray, List.set_cons_zero, List.set_cons_succ, i64_w, i32_w]
          rfl
        refine done_ (by kernel_rfl) ?_
        go_wp2
        go_ret
        exact ⟨rfl, B20.out⟩
end Go.Proofs.Ytpbchkgahjafeaa.Pure
