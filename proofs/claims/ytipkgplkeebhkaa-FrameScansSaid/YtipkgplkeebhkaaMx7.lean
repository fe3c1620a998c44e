/- Written by a program of this session (a turned copy of the printer: wip/turnprint.py): for each Go function a plain one, and the walk that shows that the code comes to just its answers. -/
import Derived.Test.YtipkgplkeebhkaaMx0
import Derived.Test.YtipkgplkeebhkaaMx4
import Derived.Test.YtipkgplkeebhkaaMx6
namespace Go.Proofs.Ytipkgplkeebhkaa.M
open Go.RowKit Go.Proofs.YtipkgplkeebhkaaW.PrintWords Go.Proofs.YtipkgplkeebhkaaW.PrintLast Go.Proofs.YtipkgplkeebhkaaW.PrintMore
attribute [local go_sem] max2_int min2_int max_two min_two max_three min_three max_four min_four   -- for this text's walks alone
set_option linter.unusedVariables false
set_option linter.unusedSimpArgs false

/-! ### contralaw05_FrameScans: function 10 -/
mutual
def contralaw05_FrameScans.j0 : Nat → List (List Int) → List ByteArray → Bool → Option (Bool)
  | 0, _, _, _ => none
  | k + 1, x3, x5, x33 => if x33 = true then (some false) else (contralaw05_FrameScans.l0 k x3 x5 (x3.length : Int) 0)
def contralaw05_FrameScans.l0 : Nat → List (List Int) → List ByteArray → Int → Int → Option (Bool)
  | 0, _, _, _, _ => none
  | k + 1, x3, x5, x35, x36 => if x36 < x35 then (if 0 ≤ x36 then (if x36 < (x3.length : Int) then (if x36 < (x5.length : Int) then (if (strOfNums (rd_L3 x3 x36)).toList = (rdOf ByteArray.empty x5 x36).toList then (contralaw05_FrameScans.l0 k x3 x5 x35 (wrap64 (x36 + 1))) else (some false)) else (none)) else (none)) else (none)) else (some true)
end
def contralaw05_FrameScans.f (k : Nat) (l0 : List Int) : Option (Bool) := (contralaw05_records.f k).bind fun t291 => (if t291 = true then (if (l0.length : Int) > 3000 then (some true) else ((frame_Scan.f k l0).bind fun bt292 => ((contraref05_Scan.f k (strOfNums l0)).bind fun bt296 => (if bt292.2 = bt296.2 then (contralaw05_FrameScans.j0 k bt292.1 bt296.1 ((bt292.1.length : Int) != (bt296.1.length : Int))) else (contralaw05_FrameScans.j0 k bt292.1 bt296.1 true))))) else (some false))
theorem contralaw05_FrameScans.mono_l : ∀ k, (∀ y0 y1 y2, LeO (contralaw05_FrameScans.j0 k y0 y1 y2) (contralaw05_FrameScans.j0 (k + 1) y0 y1 y2)) ∧ (∀ y0 y1 y2 y3, LeO (contralaw05_FrameScans.l0 k y0 y1 y2 y3) (contralaw05_FrameScans.l0 (k + 1) y0 y1 y2 y3))
  | 0 => ⟨fun _ _ _ r h => by simp [contralaw05_FrameScans.j0] at h, fun _ _ _ _ r h => by simp [contralaw05_FrameScans.l0] at h⟩
  | k + 1 => by
    obtain ⟨ih0, ih1⟩ := contralaw05_FrameScans.mono_l k
    refine ⟨?_, ?_⟩
    · intro y0 y1 y2
      unfold contralaw05_FrameScans.j0
      repeat' first
      | (with_reducible exact ih0 _ _ _)
      | (with_reducible exact ih1 _ _ _ _)
      | (with_reducible exact contralaw05_records.mono _)
      | (with_reducible exact contraref05_Scan.mono _ _)
      | (with_reducible exact frame_Scan.mono _ _)
      | (with_reducible exact LeO.refl _)
      | (with_reducible exact LeO.none _)
      | (with_reducible refine LeO.ite ?_ ?_)
      | (with_reducible refine LeO.bind ?_ (fun _ => ?_))
      | exact ih0 _ _ _
      | exact ih1 _ _ _ _
      | exact contralaw05_records.mono _
      | exact contraref05_Scan.mono _ _
      | exact frame_Scan.mono _ _
      | exact LeO.none _
      | refine LeO.ite ?_ ?_
      | refine LeO.bind ?_ (fun _ => ?_)
    · intro y0 y1 y2 y3
      unfold contralaw05_FrameScans.l0
      repeat' first
      | (with_reducible exact ih0 _ _ _)
      | (with_reducible exact ih1 _ _ _ _)
      | (with_reducible exact contralaw05_records.mono _)
      | (with_reducible exact contraref05_Scan.mono _ _)
      | (with_reducible exact frame_Scan.mono _ _)
      | (with_reducible exact LeO.refl _)
      | (with_reducible exact LeO.none _)
      | (with_reducible refine LeO.ite ?_ ?_)
      | (with_reducible refine LeO.bind ?_ (fun _ => ?_))
      | exact ih0 _ _ _
      | exact ih1 _ _ _ _
      | exact contralaw05_records.mono _
      | exact contraref05_Scan.mono _ _
      | exact frame_Scan.mono _ _
      | exact LeO.none _
      | refine LeO.ite ?_ ?_
      | refine LeO.bind ?_ (fun _ => ?_)
theorem contralaw05_FrameScans.mono : ∀ a0 k, LeO (contralaw05_FrameScans.f k a0) (contralaw05_FrameScans.f (k + 1) a0) := by
  intro a0 k
  obtain ⟨ih0, ih1⟩ := contralaw05_FrameScans.mono_l k
  unfold contralaw05_FrameScans.f
  repeat' first
      | (with_reducible exact ih0 _ _ _)
      | (with_reducible exact ih1 _ _ _ _)
      | (with_reducible exact contralaw05_records.mono _)
      | (with_reducible exact contraref05_Scan.mono _ _)
      | (with_reducible exact frame_Scan.mono _ _)
      | (with_reducible exact LeO.refl _)
      | (with_reducible exact LeO.none _)
      | (with_reducible refine LeO.ite ?_ ?_)
      | (with_reducible refine LeO.bind ?_ (fun _ => ?_))
      | exact ih0 _ _ _
      | exact ih1 _ _ _ _
      | exact contralaw05_records.mono _
      | exact contraref05_Scan.mono _ _
      | exact frame_Scan.mono _ _
      | exact LeO.none _
      | refine LeO.ite ?_ ?_
      | refine LeO.bind ?_ (fun _ => ?_)
set_option maxHeartbeats 8000000 in
set_option maxRecDepth 100000 in
theorem contralaw05_FrameScans.calls (k : Nat) (A0 : Option Addr) (c0 : Nat) (l0 : List Int) (r : Bool) (w : World) (hr0 : Kd.C (Kd.int .u8) w A0 l0.length l0) (hc0 : l0.length ≤ c0) (h : contralaw05_FrameScans.f k l0 = some r) :
    Calls Try.prog 10 #[.slice A0 l0.length c0] w fun e w' => e = .returned (.bool r) ∧ Below w.heap.size w w' := by
  have HR0 := Aside0.mk hr0
  have HC0 := Aside0.mk hc0
  clear hr0 hc0
  have HB := Aside0.mk (Below.refl w.heap.size w)
  have H : ((contralaw05_records.f k).bind fun t291 => (if t291 = true then (if (l0.length : Int) > 3000 then (some true) else ((frame_Scan.f k l0).bind fun bt292 => ((contraref05_Scan.f k (strOfNums l0)).bind fun bt296 => (if bt292.2 = bt296.2 then (contralaw05_FrameScans.j0 k bt292.1 bt296.1 ((bt292.1.length : Int) != (bt296.1.length : Int))) else (contralaw05_FrameScans.j0 k bt292.1 bt296.1 true))))) else (some false))) = some r := h
  clear h
  replace H := Option.bind_eq_some_iff.mp H
  obtain ⟨t291, A20, H⟩ := H
  replace H : (if t291 = true then (if (l0.length : Int) > 3000 then (some true) else ((frame_Scan.f k l0).bind fun bt292 => ((contraref05_Scan.f k (strOfNums l0)).bind fun bt296 => (if bt292.2 = bt296.2 then (contralaw05_FrameScans.j0 k bt292.1 bt296.1 ((bt292.1.length : Int) != (bt296.1.length : Int))) else (contralaw05_FrameScans.j0 k bt292.1 bt296.1 true))))) else (some false)) = some r := H
  have A2 := Aside0.mk A20
  clear A20
  by_cases c3 : t291 = true
  · subst c3
    have H1 : (if (l0.length : Int) > 3000 then (some true) else ((frame_Scan.f k l0).bind fun bt292 => ((contraref05_Scan.f k (strOfNums l0)).bind fun bt296 => (if bt292.2 = bt296.2 then (contralaw05_FrameScans.j0 k bt292.1 bt296.1 ((bt292.1.length : Int) != (bt296.1.length : Int))) else (contralaw05_FrameScans.j0 k bt292.1 bt296.1 true))))) = some r := by rw [if_pos rfl] at H; exact H
    clear H
    have H := H1
    clear H1
    by_cases c4 : (l0.length : Int) > 3000
    · rw [if_pos c4] at H
      have c4b0 : decide (3000 < (l0.length : Int)) = true := decide_eq_true c4
      have c4b1 : decide (3000 < l0.length) = true := decide_eq_true (by omega)
      clear c4
      obtain rfl := Option.some.inj H
      go_enter Try.func10, Try.ntmps10
      go_wp2_with (first | (go_at_call 18; (with_reducible refine (contralaw05_records.calls k  true _ A2.out).mono ?_); rintro e w5 ⟨rfl, hb⟩; have n0_ := Aside0.mk (below_step (by repeat (first | (with_reducible first | exact HB.out | apply below_alloc | apply pw_below_drewN | apply below_drew1) | exact HB.out)) hb); clear HB; have HB := n0_; clear n0_; (try clear hb); (try clear hb2); (try clear hk); (try clear hi)))
      repeat (go_quiet (first | (go_at_call 18; (with_reducible refine (contralaw05_records.calls k  true _ A2.out).mono ?_); rintro e w5 ⟨rfl, hb⟩; have n0_ := Aside0.mk (below_step (by repeat (first | (with_reducible first | exact HB.out | apply below_alloc | apply pw_below_drewN | apply below_drew1) | exact HB.out)) hb); clear HB; have HB := n0_; clear n0_; (try clear hb); (try clear hb2); (try clear hk); (try clear hi))); try go_wp2_with (first | (go_at_call 18; (with_reducible refine (contralaw05_records.calls k  true _ A2.out).mono ?_); rintro e w5 ⟨rfl, hb⟩; have n0_ := Aside0.mk (below_step (by repeat (first | (with_reducible first | exact HB.out | apply below_alloc | apply pw_below_drewN | apply below_drew1) | exact HB.out)) hb); clear HB; have HB := n0_; clear n0_; (try clear hb); (try clear hb2); (try clear hk); (try clear hi))))
      go_ret
      exact ⟨by first | rfl | (simp [errW_none, errW_some] <;> rfl) | (simp [*, errW_none, errW_some] <;> rfl), by repeat (first | (with_reducible first | exact HB.out | apply below_alloc | apply pw_below_drewN | apply below_drew1) | exact HB.out)⟩
    · rw [if_neg c4] at H
      have c4b0 : decide (3000 < (l0.length : Int)) = false := decide_eq_false c4
      have c4b1 : decide (3000 < l0.length) = false := decide_eq_false (by omega)
      clear c4
      replace H := Option.bind_eq_some_iff.mp H
      obtain ⟨⟨t292, t293⟩, A60, H⟩ := H
      replace H : ((contraref05_Scan.f k (strOfNums l0)).bind fun bt296 => (if t293 = bt296.2 then (contralaw05_FrameScans.j0 k t292 bt296.1 ((t292.length : Int) != (bt296.1.length : Int))) else (contralaw05_FrameScans.j0 k t292 bt296.1 true))) = some r := H
      have A6 := Aside0.mk A60
      clear A60
      replace H := Option.bind_eq_some_iff.mp H
      obtain ⟨⟨t296, t297⟩, A70, H⟩ := H
      replace H : (if t293 = t297 then (contralaw05_FrameScans.j0 k t292 t296 ((t292.length : Int) != (t296.length : Int))) else (contralaw05_FrameScans.j0 k t292 t296 true)) = some r := H
      have A7 := Aside0.mk A70
      clear A70
      have HC8 := Aside0.mk H
      clear H
      go_enter Try.func10, Try.ntmps10
      go_upto_region 7 with (first | (go_at_call 18; (with_reducible refine (contralaw05_records.calls k  true _ A2.out).mono ?_); rintro e w9 ⟨rfl, hb⟩; have n0_ := Aside0.mk (below_step (by repeat (first | (with_reducible first | exact HB.out | apply below_alloc | apply pw_below_drewN | apply below_drew1) | exact HB.out)) hb); clear HB; have HB := n0_; clear n0_; (try clear hb); (try clear hb2); (try clear hk); (try clear hi)) | (go_at_call 23; (with_reducible refine (frame_Scan.calls k _ _ l0 t292 t293 _ ?side1 ?side2 A6.out).mono ?_); (case side1 => repeat (first | exact (Kd.C_below HR0.out HB.out) | (with_reducible refine Kd.C_alloc ?_ _) | (with_reducible refine Kd.C_drewN ?_ _) | (with_reducible refine Kd.C_drew ?_))); (case side2 => exact HC0.out); rintro e w10 ⟨v294, rfl, ho0, hb⟩; have n0_ := Aside0.mk (Kd.S_lower ho0 (below_size (by repeat (first | (with_reducible first | exact HB.out | apply below_alloc | apply pw_below_drewN | apply below_drew1) | exact HB.out)))); have n1_ := Aside0.mk (below_step (by repeat (first | (with_reducible first | exact HB.out | apply below_alloc | apply pw_below_drewN | apply below_drew1) | exact HB.out)) hb); clear HB; have HO295 := n0_; have HB := n1_; clear n0_ n1_; (try clear hb); (try clear hb2); (try clear hk); (try clear hi); (try clear ho0); have hcvq11 := fun n_ : Nat => Kd.C_string (P := Try.prog) (A := A0) (c := c0) Try.underlying22 Try.underlying5 Try.underlying9 (Kd.C_drewN (Kd.C_below HR0.out HB.out) n_); have hcv12 := Kd.C_string (P := Try.prog) (A := A0) (c := c0) Try.underlying22 Try.underlying5 Try.underlying9 (Kd.C_below HR0.out HB.out)) | (go_at_call 24; (with_reducible refine (contraref05_Scan.calls k (strOfNums l0) t296 t297 _ A7.out).mono ?_); rintro e w13 ⟨v298, rfl, ho0, hb⟩; have n0_ := Aside0.mk (Kd.S_below (by (with_reducible repeat (first | apply Kd.S_alloc | apply Kd.S_drewN | apply Kd.S_drew)); exact HO295.out) hb); have n1_ := Aside0.mk (Kd.R_lower ho0 (below_size (by repeat (first | (with_reducible first | exact HB.out | apply below_alloc | apply pw_below_drewN | apply below_drew1) | exact HB.out)))); have n2_ := Aside0.mk (below_step (by repeat (first | (with_reducible first | exact HB.out | apply below_alloc | apply pw_below_drewN | apply below_drew1) | exact HB.out)) hb); clear HO295; clear HB; have HO295 := n0_; have HO299 := n1_; have HB := n2_; clear n0_ n1_ n2_; (try clear hb); (try clear hb2); (try clear hk); (try clear hi); (try clear ho0)))
      repeat (go_quiet (first | (go_at_call 18; (with_reducible refine (contralaw05_records.calls k  true _ A2.out).mono ?_); rintro e w9 ⟨rfl, hb⟩; have n0_ := Aside0.mk (below_step (by repeat (first | (with_reducible first | exact HB.out | apply below_alloc | apply pw_below_drewN | apply below_drew1) | exact HB.out)) hb); clear HB; have HB := n0_; clear n0_; (try clear hb); (try clear hb2); (try clear hk); (try clear hi)) | (go_at_call 23; (with_reducible refine (frame_Scan.calls k _ _ l0 t292 t293 _ ?side1 ?side2 A6.out).mono ?_); (case side1 => repeat (first | exact (Kd.C_below HR0.out HB.out) | (with_reducible refine Kd.C_alloc ?_ _) | (with_reducible refine Kd.C_drewN ?_ _) | (with_reducible refine Kd.C_drew ?_))); (case side2 => exact HC0.out); rintro e w10 ⟨v294, rfl, ho0, hb⟩; have n0_ := Aside0.mk (Kd.S_lower ho0 (below_size (by repeat (first | (with_reducible first | exact HB.out | apply below_alloc | apply pw_below_drewN | apply below_drew1) | exact HB.out)))); have n1_ := Aside0.mk (below_step (by repeat (first | (with_reducible first | exact HB.out | apply below_alloc | apply pw_below_drewN | apply below_drew1) | exact HB.out)) hb); clear HB; have HO295 := n0_; have HB := n1_; clear n0_ n1_; (try clear hb); (try clear hb2); (try clear hk); (try clear hi); (try clear ho0); have hcvq11 := fun n_ : Nat => Kd.C_string (P := Try.prog) (A := A0) (c := c0) Try.underlying22 Try.underlying5 Try.underlying9 (Kd.C_drewN (Kd.C_below HR0.out HB.out) n_); have hcv12 := Kd.C_string (P := Try.prog) (A := A0) (c := c0) Try.underlying22 Try.underlying5 Try.underlying9 (Kd.C_below HR0.out HB.out)) | (go_at_call 24; (with_reducible refine (contraref05_Scan.calls k (strOfNums l0) t296 t297 _ A7.out).mono ?_); rintro e w13 ⟨v298, rfl, ho0, hb⟩; have n0_ := Aside0.mk (Kd.S_below (by (with_reducible repeat (first | apply Kd.S_alloc | apply Kd.S_drewN | apply Kd.S_drew)); exact HO295.out) hb); have n1_ := Aside0.mk (Kd.R_lower ho0 (below_size (by repeat (first | (with_reducible first | exact HB.out | apply below_alloc | apply pw_below_drewN | apply below_drew1) | exact HB.out)))); have n2_ := Aside0.mk (below_step (by repeat (first | (with_reducible first | exact HB.out | apply below_alloc | apply pw_below_drewN | apply below_drew1) | exact HB.out)) hb); clear HO295; clear HB; have HO295 := n0_; have HO299 := n1_; have HB := n2_; clear n0_ n1_ n2_; (try clear hb); (try clear hb2); (try clear hk); (try clear hi); (try clear ho0))); go_upto_region 7 with (first | (go_at_call 18; (with_reducible refine (contralaw05_records.calls k  true _ A2.out).mono ?_); rintro e w9 ⟨rfl, hb⟩; have n0_ := Aside0.mk (below_step (by repeat (first | (with_reducible first | exact HB.out | apply below_alloc | apply pw_below_drewN | apply below_drew1) | exact HB.out)) hb); clear HB; have HB := n0_; clear n0_; (try clear hb); (try clear hb2); (try clear hk); (try clear hi)) | (go_at_call 23; (with_reducible refine (frame_Scan.calls k _ _ l0 t292 t293 _ ?side1 ?side2 A6.out).mono ?_); (case side1 => repeat (first | exact (Kd.C_below HR0.out HB.out) | (with_reducible refine Kd.C_alloc ?_ _) | (with_reducible refine Kd.C_drewN ?_ _) | (with_reducible refine Kd.C_drew ?_))); (case side2 => exact HC0.out); rintro e w10 ⟨v294, rfl, ho0, hb⟩; have n0_ := Aside0.mk (Kd.S_lower ho0 (below_size (by repeat (first | (with_reducible first | exact HB.out | apply below_alloc | apply pw_below_drewN | apply below_drew1) | exact HB.out)))); have n1_ := Aside0.mk (below_step (by repeat (first | (with_reducible first | exact HB.out | apply below_alloc | apply pw_below_drewN | apply below_drew1) | exact HB.out)) hb); clear HB; have HO295 := n0_; have HB := n1_; clear n0_ n1_; (try clear hb); (try clear hb2); (try clear hk); (try clear hi); (try clear ho0); have hcvq11 := fun n_ : Nat => Kd.C_string (P := Try.prog) (A := A0) (c := c0) Try.underlying22 Try.underlying5 Try.underlying9 (Kd.C_drewN (Kd.C_below HR0.out HB.out) n_); have hcv12 := Kd.C_string (P := Try.prog) (A := A0) (c := c0) Try.underlying22 Try.underlying5 Try.underlying9 (Kd.C_below HR0.out HB.out)) | (go_at_call 24; (with_reducible refine (contraref05_Scan.calls k (strOfNums l0) t296 t297 _ A7.out).mono ?_); rintro e w13 ⟨v298, rfl, ho0, hb⟩; have n0_ := Aside0.mk (Kd.S_below (by (with_reducible repeat (first | apply Kd.S_alloc | apply Kd.S_drewN | apply Kd.S_drew)); exact HO295.out) hb); have n1_ := Aside0.mk (Kd.R_lower ho0 (below_size (by repeat (first | (with_reducible first | exact HB.out | apply below_alloc | apply pw_below_drewN | apply below_drew1) | exact HB.out)))); have n2_ := Aside0.mk (below_step (by repeat (first | (with_reducible first | exact HB.out | apply below_alloc | apply pw_below_drewN | apply below_drew1) | exact HB.out)) hb); clear HO295; clear HB; have HO295 := n0_; have HO299 := n1_; have HB := n2_; clear n0_ n1_ n2_; (try clear hb); (try clear hb2); (try clear hk); (try clear hi); (try clear ho0))))
      (try simp only [Act.put, List.setIfInBounds_toArray, List.set_cons_zero, List.set_cons_succ])
      go_cut [33] (fun v33 wc => ∃ (kq : Nat) (x33_7 : Bool), v33 = .bool x33_7 ∧ Aside0 (contralaw05_FrameScans.j0 kq t292 t296 x33_7 = some r) ∧ Aside0 (kq ≤ k) ∧ Aside0 (Kd.S (Kd.slice 5 (Kd.int .u8)) 22 wc w.heap.size (fun _ => True) v294 t292) ∧ Aside0 (Kd.R Kd.string 9 wc w.heap.size (fun _ => True) v298 t296) ∧ Aside0 (Below w.heap.size w wc))
      case first =>
        have H := HC8.out
        clear HC8
        by_cases c14 : t293 = t297
        · rw [if_pos c14] at H
          have c14b0 : (t293 == t297) = true := beq_iff_eq.mpr c14
          have c14b1 : (t293 != t297) = false := bne_eq_false_iff_eq.mpr c14
          clear c14
          (first | rw [c14b0] | (simp only [i64_w, i32_w]; rw [c14b0]) | skip)
          have H' := Aside0.mk H
          clear H
          obtain ⟨Ao15, co15, eo15⟩ := Kd.S_slice HO295.out
          subst eo15
          obtain ⟨Ao16, co16, eo16⟩ := Kd.R_slice HO299.out
          subst eo16
          go_wp2
          repeat (go_quiet (fail); try go_wp2)
          go_meet
          case rel => exact ⟨_, (((t292.length : Int) != (t296.length : Int))), (by first | rfl | (simp; done) | (simp [*]; done)), H', ⟨by first | omega | exact Nat.le_refl _⟩, ⟨by (with_reducible repeat (first | apply Kd.S_alloc | apply Kd.S_drewN | apply Kd.S_drew)); exact HO295.out⟩, ⟨by (with_reducible repeat (first | apply Kd.R_alloc | apply Kd.R_drewN | apply Kd.R_drew)); exact HO299.out⟩, ⟨by repeat (first | (with_reducible first | exact HB.out | apply below_alloc | apply pw_below_drewN | apply below_drew1) | exact HB.out)⟩⟩
        · rw [if_neg c14] at H
          have c14b0 : (t293 == t297) = false := beq_eq_false_iff_ne.mpr c14
          have c14b1 : (t293 != t297) = true := bne_iff_ne.mpr c14
          (first | rw [c14b0] | (simp only [i64_w, i32_w]; rw [c14b0]) | skip)
          have H' := Aside0.mk H
          clear H
          go_wp2
          repeat (go_quiet (fail); try go_wp2)
          go_meet
          case rel => exact ⟨_, (true), (by first | rfl | (simp; done) | (simp [*]; done)), H', ⟨by first | omega | exact Nat.le_refl _⟩, ⟨by (with_reducible repeat (first | apply Kd.S_alloc | apply Kd.S_drewN | apply Kd.S_drew)); exact HO295.out⟩, ⟨by (with_reducible repeat (first | apply Kd.R_alloc | apply Kd.R_drewN | apply Kd.R_drew)); exact HO299.out⟩, ⟨by repeat (first | (with_reducible first | exact HB.out | apply below_alloc | apply pw_below_drewN | apply below_drew1) | exact HB.out)⟩⟩
      case rest =>
        clear HC8
        try clear c1
        try clear q1
        try clear hcv1
        try clear p2
        try clear c3
        try clear c4
        try clear c4b0
        try clear c4b1
        try clear c10
        try clear q11
        try clear hcv12
        try clear c14
        try clear c14b0
        try clear c14b1
        obtain ⟨kq, x33_7, rfl, HA, HJ7, HO_3, HO_5, HB⟩ := hcut
        cases kq with
        | zero => exact absurd HA.out (by simp [contralaw05_FrameScans.j0])
        | succ kj7 =>
          have H := HA.out
          clear HA
          simp only [contralaw05_FrameScans.j0] at H
          by_cases c17 : x33_7 = true
          · subst c17
            have H1 : (some false) = some r := by rw [if_pos rfl] at H; exact H
            clear H
            have H := H1
            clear H1
            obtain rfl := Option.some.inj H
            go_wp2
            repeat (go_quiet (fail); try go_wp2)
            go_ret
            exact ⟨by first | rfl | (simp [errW_none, errW_some] <;> rfl) | (simp [*, errW_none, errW_some] <;> rfl), by repeat (first | (with_reducible first | exact HB.out | apply below_alloc | apply pw_below_drewN | apply below_drew1) | exact HB.out)⟩
          · replace c17 := Bool.eq_false_iff.mpr c17
            subst c17
            have H1 : (contralaw05_FrameScans.l0 kj7 t292 t296 (t292.length : Int) 0) = some r := by rw [if_neg (show ¬ (false = true) by decide)] at H; exact H
            clear H
            have H := H1
            clear H1
            have H' := Aside0.mk H
            clear H
            obtain ⟨Ao18, co18, eo18⟩ := Kd.S_slice HO_3.out
            subst eo18
            go_wp2
            repeat (go_quiet (fail); try go_wp2)
            go_loopg [36] kj7 (fun kq v36 w' => ∃ (x36_2 : Int), v36 = .int .i64 x36_2 ∧ Aside0 (contralaw05_FrameScans.l0 kq t292 t296 (t292.length : Int) x36_2 = some r) ∧ Aside0 (kq ≤ kj7) ∧ Aside0 (Kd.S (Kd.slice 5 (Kd.int .u8)) 22 w' w.heap.size (fun _ => True) (.slice Ao18 t292.length co18) t292) ∧ Aside0 (Kd.R Kd.string 9 w' w.heap.size (fun _ => True) v298 t296) ∧ Aside0 (Below w.heap.size w w'))
            case atStart => exact ⟨(0), (by first | rfl | (simp; done) | (simp [*]; done)), H', ⟨Nat.le_refl _⟩, ⟨by (with_reducible repeat (first | apply Kd.S_alloc | apply Kd.S_drewN | apply Kd.S_drew)); exact HO_3.out⟩, ⟨by (with_reducible repeat (first | apply Kd.R_alloc | apply Kd.R_drewN | apply Kd.R_drew)); exact HO_5.out⟩, ⟨by repeat (first | (with_reducible first | exact HB.out | apply below_alloc | apply pw_below_drewN | apply below_drew1) | exact HB.out)⟩⟩
            case round =>
              clear H'
              try clear c1
              try clear q1
              try clear hcv1
              try clear p2
              try clear c3
              try clear c4
              try clear c4b0
              try clear c4b1
              try clear c10
              try clear q11
              try clear hcv12
              try clear c14
              try clear c14b0
              try clear c14b1
              try clear c17
              try clear p2
              try clear q1
              try clear q11
              obtain ⟨x36_2, rfl, HA, HK2, HO_3, HO_5, HB⟩ := hrel
              cases gk with
              | zero => exact absurd HA.out (by simp [contralaw05_FrameScans.l0])
              | succ k2 =>
                have H := HA.out
                clear HA
                simp only [contralaw05_FrameScans.l0] at H
                by_cases c19 : x36_2 < (t292.length : Int)
                · rw [if_pos c19] at H
                  have c19b0 : decide (x36_2 < (t292.length : Int)) = true := decide_eq_true c19
                  clear c19
                  by_cases c20 : 0 ≤ x36_2
                  · rw [if_pos c20] at H
                    have c20b0 : decide (0 ≤ x36_2) = true := decide_eq_true c20
                    clear c20
                    by_cases c21 : x36_2 < (t292.length : Int)
                    · rw [if_pos c21] at H
                      have c21b0 : decide (x36_2 < (t292.length : Int)) = true := decide_eq_true c21
                      clear c21
                      by_cases c22 : x36_2 < (t296.length : Int)
                      · rw [if_pos c22] at H
                        have c22b0 : decide (x36_2 < (t296.length : Int)) = true := decide_eq_true c22
                        clear c22
                        by_cases c23 : (strOfNums (rd_L3 t292 x36_2)).toList = (rdOf ByteArray.empty t296 x36_2).toList
                        · rw [if_pos c23] at H
                          have c23b0 : ((strOfNums (rd_L3 t292 x36_2)).toList == (rdOf ByteArray.empty t296 x36_2).toList) = true := beq_iff_eq.mpr c23
                          have c23b1 : ((strOfNums (rd_L3 t292 x36_2)).toList != (rdOf ByteArray.empty t296 x36_2).toList) = false := bne_eq_false_iff_eq.mpr c23
                          clear c23
                          have H' := Aside0.mk H
                          clear H
                          have p300 : 0 ≤ (x36_2 : Int) := of_decide_eq_true (by first | (with_reducible assumption) | assumption)
                          have q300 : x36_2 < (t292.length : Int) := of_decide_eq_true (by first | (with_reducible assumption) | assumption)
                          obtain ⟨ad300, A300_0, c300_0, e300, hx300_0, hl300_0, hi300_0⟩ := at_L3 (Kd.S_reads' HO_3.out).2.2 x36_2 p300 q300
                          cases e300
                          obtain ⟨ce300, hce300, hMe300, hcc300⟩ := Kd.S_get HO_3.out [] x36_2 p300 (by first | exact q300 | exact of_decide_eq_true (by first | (with_reducible assumption) | assumption) | (have e_ := (Kd.S_reads' HO_3.out).1; omega))
                          obtain ⟨ve300_0, rfl, ge300_0⟩ := hMe300
                          have hv300_0 := hcc300 0 _ rfl
                          rw [Nat.add_zero, show ((Kd.slice 5 (Kd.int .u8))).sz = 1 from rfl, Nat.mul_one] at hv300_0
                          replace hv300_0 := Option.some.inj (hv300_0.symm.trans hx300_0)
                          rw [hv300_0] at ge300_0
                          have HL300_0 := Aside0.mk (show Kd.R (Kd.int .u8) 5 _ _ _ _ (rd_L3 t292 x36_2) from ge300_0)
                          clear hv300_0 ge300_0
                          clear hcc300 hce300
                          have HR300_0 := Aside0.mk hi300_0
                          have HC300_0 := Aside0.mk hl300_0
                          clear hi300_0 hl300_0
                          replace p300 := eq_true p300
                          replace q300 := eq_true q300
                          have hcvq24 := fun n_ : Nat => Kd.C_string (P := Try.prog) (A := A300_0) (c := c300_0) Try.underlying22 Try.underlying5 Try.underlying9 (Kd.C_drewN (by repeat (first | (with_reducible exact HR300_0.out) | (with_reducible refine Kd.C_alloc ?_ _) | (with_reducible refine Kd.C_drewN ?_ _) | (with_reducible refine Kd.C_drew ?_) | exact HR300_0.out)) n_)
                          have hcv25 := Kd.C_string (P := Try.prog) (A := A300_0) (c := c300_0) Try.underlying22 Try.underlying5 Try.underlying9 (by repeat (first | (with_reducible exact HR300_0.out) | (with_reducible refine Kd.C_alloc ?_ _) | (with_reducible refine Kd.C_drewN ?_ _) | (with_reducible refine Kd.C_drew ?_) | exact HR300_0.out))
                          obtain ⟨Ao26, co26, eo26⟩ := Kd.R_slice HO_5.out
                          subst eo26
                          have p301 : 0 ≤ (x36_2 : Int) := of_decide_eq_true (by first | (with_reducible assumption) | assumption)
                          have q301 : x36_2 < (t296.length : Int) := of_decide_eq_true (by first | (with_reducible assumption) | assumption)
                          obtain ⟨ad301, e301, hx301_0⟩ := Kd.at_string (Kd.R_reads' HO_5.out).2.2 x36_2 p301 q301
                          cases e301
                          replace p301 := eq_true p301
                          replace q301 := eq_true q301
                          go_wp2
                          repeat (go_quiet (fail); try go_wp2)
                          go_roundg k2
                          case measure => have := HJ7.out; have := HK2.out; omega
                          case rel => exact ⟨(wrap64 (x36_2 + 1)), (by first | rfl | (simp; done) | (simp [*]; done)), H', ⟨by have := HJ7.out; have := HK2.out; omega⟩, ⟨by (with_reducible repeat (first | apply Kd.S_alloc | apply Kd.S_drewN | apply Kd.S_drew)); exact HO_3.out⟩, ⟨by (with_reducible repeat (first | apply Kd.R_alloc | apply Kd.R_drewN | apply Kd.R_drew)); exact HO_5.out⟩, ⟨by repeat (first | (with_reducible first | exact HB.out | apply below_alloc | apply pw_below_drewN | apply below_drew1) | exact HB.out)⟩⟩
                        · rw [if_neg c23] at H
                          have c23b0 : ((strOfNums (rd_L3 t292 x36_2)).toList == (rdOf ByteArray.empty t296 x36_2).toList) = false := beq_eq_false_iff_ne.mpr c23
                          have c23b1 : ((strOfNums (rd_L3 t292 x36_2)).toList != (rdOf ByteArray.empty t296 x36_2).toList) = true := bne_iff_ne.mpr c23
                          obtain rfl := Option.some.inj H
                          have p300 : 0 ≤ (x36_2 : Int) := of_decide_eq_true (by first | (with_reducible assumption) | assumption)
                          have q300 : x36_2 < (t292.length : Int) := of_decide_eq_true (by first | (with_reducible assumption) | assumption)
                          obtain ⟨ad300, A300_0, c300_0, e300, hx300_0, hl300_0, hi300_0⟩ := at_L3 (Kd.S_reads' HO_3.out).2.2 x36_2 p300 q300
                          cases e300
                          obtain ⟨ce300, hce300, hMe300, hcc300⟩ := Kd.S_get HO_3.out [] x36_2 p300 (by first | exact q300 | exact of_decide_eq_true (by first | (with_reducible assumption) | assumption) | (have e_ := (Kd.S_reads' HO_3.out).1; omega))
                          obtain ⟨ve300_0, rfl, ge300_0⟩ := hMe300
                          have hv300_0 := hcc300 0 _ rfl
                          rw [Nat.add_zero, show ((Kd.slice 5 (Kd.int .u8))).sz = 1 from rfl, Nat.mul_one] at hv300_0
                          replace hv300_0 := Option.some.inj (hv300_0.symm.trans hx300_0)
                          rw [hv300_0] at ge300_0
                          have HL300_0 := Aside0.mk (show Kd.R (Kd.int .u8) 5 _ _ _ _ (rd_L3 t292 x36_2) from ge300_0)
                          clear hv300_0 ge300_0
                          clear hcc300 hce300
                          have HR300_0 := Aside0.mk hi300_0
                          have HC300_0 := Aside0.mk hl300_0
                          clear hi300_0 hl300_0
                          replace p300 := eq_true p300
                          replace q300 := eq_true q300
                          have hcvq27 := fun n_ : Nat => Kd.C_string (P := Try.prog) (A := A300_0) (c := c300_0) Try.underlying22 Try.underlying5 Try.underlying9 (Kd.C_drewN (by repeat (first | (with_reducible exact HR300_0.out) | (with_reducible refine Kd.C_alloc ?_ _) | (with_reducible refine Kd.C_drewN ?_ _) | (with_reducible refine Kd.C_drew ?_) | exact HR300_0.out)) n_)
                          have hcv28 := Kd.C_string (P := Try.prog) (A := A300_0) (c := c300_0) Try.underlying22 Try.underlying5 Try.underlying9 (by repeat (first | (with_reducible exact HR300_0.out) | (with_reducible refine Kd.C_alloc ?_ _) | (with_reducible refine Kd.C_drewN ?_ _) | (with_reducible refine Kd.C_drew ?_) | exact HR300_0.out))
                          obtain ⟨Ao29, co29, eo29⟩ := Kd.R_slice HO_5.out
                          subst eo29
                          have p301 : 0 ≤ (x36_2 : Int) := of_decide_eq_true (by first | (with_reducible assumption) | assumption)
                          have q301 : x36_2 < (t296.length : Int) := of_decide_eq_true (by first | (with_reducible assumption) | assumption)
                          obtain ⟨ad301, e301, hx301_0⟩ := Kd.at_string (Kd.R_reads' HO_5.out).2.2 x36_2 p301 q301
                          cases e301
                          replace p301 := eq_true p301
                          replace q301 := eq_true q301
                          go_wp2
                          repeat (go_quiet (fail); try go_wp2)
                          go_ret
                          exact ⟨by first | rfl | (simp [errW_none, errW_some] <;> rfl) | (simp [*, errW_none, errW_some] <;> rfl), by repeat (first | (with_reducible first | exact HB.out | apply below_alloc | apply pw_below_drewN | apply below_drew1) | exact HB.out)⟩
                      · rw [if_neg c22] at H
                        exact absurd H (by simp)
                    · rw [if_neg c21] at H
                      exact absurd H (by simp)
                  · rw [if_neg c20] at H
                    exact absurd H (by simp)
                · rw [if_neg c19] at H
                  have c19b0 : decide (x36_2 < (t292.length : Int)) = false := decide_eq_false c19
                  clear c19
                  obtain rfl := Option.some.inj H
                  go_wp2
                  repeat (go_quiet (fail); try go_wp2)
                  go_ret
                  exact ⟨by first | rfl | (simp [errW_none, errW_some] <;> rfl) | (simp [*, errW_none, errW_some] <;> rfl), by repeat (first | (with_reducible first | exact HB.out | apply below_alloc | apply pw_below_drewN | apply below_drew1) | exact HB.out)⟩
  · replace c3 := Bool.eq_false_iff.mpr c3
    subst c3
    have H1 : (some false) = some r := by rw [if_neg (show ¬ (false = true) by decide)] at H; exact H
    clear H
    have H := H1
    clear H1
    obtain rfl := Option.some.inj H
    go_enter Try.func10, Try.ntmps10
    go_wp2_with (first | (go_at_call 18; (with_reducible refine (contralaw05_records.calls k  false _ A2.out).mono ?_); rintro e w30 ⟨rfl, hb⟩; have n0_ := Aside0.mk (below_step (by repeat (first | (with_reducible first | exact HB.out | apply below_alloc | apply pw_below_drewN | apply below_drew1) | exact HB.out)) hb); clear HB; have HB := n0_; clear n0_; (try clear hb); (try clear hb2); (try clear hk); (try clear hi)))
    repeat (go_quiet (first | (go_at_call 18; (with_reducible refine (contralaw05_records.calls k  false _ A2.out).mono ?_); rintro e w30 ⟨rfl, hb⟩; have n0_ := Aside0.mk (below_step (by repeat (first | (with_reducible first | exact HB.out | apply below_alloc | apply pw_below_drewN | apply below_drew1) | exact HB.out)) hb); clear HB; have HB := n0_; clear n0_; (try clear hb); (try clear hb2); (try clear hk); (try clear hi))); try go_wp2_with (first | (go_at_call 18; (with_reducible refine (contralaw05_records.calls k  false _ A2.out).mono ?_); rintro e w30 ⟨rfl, hb⟩; have n0_ := Aside0.mk (below_step (by repeat (first | (with_reducible first | exact HB.out | apply below_alloc | apply pw_below_drewN | apply below_drew1) | exact HB.out)) hb); clear HB; have HB := n0_; clear n0_; (try clear hb); (try clear hb2); (try clear hk); (try clear hi))))
    go_ret
    exact ⟨by first | rfl | (simp [errW_none, errW_some] <;> rfl) | (simp [*, errW_none, errW_some] <;> rfl), by repeat (first | (with_reducible first | exact HB.out | apply below_alloc | apply pw_below_drewN | apply below_drew1) | exact HB.out)⟩

/-- THE ONE PURE STATEMENT of contralaw05_FrameScans: yours. -/
def contralaw05_FrameScans.Pure : Prop := ∀ (l0 : List Int), l0.length ≤ maxLen → l0.length * 1 ≤ 140737488351232 → (∀ x ∈ l0, (Lit.int .u8 x).wf = true) → ∃ k, contralaw05_FrameScans.f k l0 = some true
theorem contralaw05_FrameScans.walk (P : contralaw05_FrameScans.Pure) (a0 : Option Addr) (len0 cap0 : Nat) (z0 : List Int) (w : World) (w0 : (a0 = none ∧ len0 = 0 ∧ cap0 = 0 ∧ z0 = []) ∨ ∃ x, a0 = some x ∧ len0 ≤ cap0 ∧ cap0 ≤ maxLen ∧ z0.length = cap0 ∧ (∀ i, i < z0.length → w.cell? (x.add i) = some (.int .u8 (z0.getD i 0))) ∧ ∀ n ∈ z0, (Lit.int .u8 n).wf = true) (y0 : len0 * 1 ≤ 140737488351232) :
    Calls Try.prog 10 #[.slice a0 len0 cap0] w fun e w' => e = .returned (.bool true) ∧ Below w.heap.size w w' := by
  obtain ⟨l0, rfl, hr0, hm0, hw0, hc0⟩ := ReadsInt.ofRowC w0
  obtain ⟨k, h⟩ := P l0 hm0 y0 hw0
  refine (contralaw05_FrameScans.calls k _ _ l0 true w (Kd.C_of_reads (d := (0 : Int)) (h1 := fun _ => rfl) hr0) hc0 h).mono ?_
  rintro e w' ⟨rfl, hd⟩
  exact ⟨rfl, hd⟩

end Go.Proofs.Ytipkgplkeebhkaa.M
