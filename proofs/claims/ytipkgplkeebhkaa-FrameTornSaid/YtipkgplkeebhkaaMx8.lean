/- Written by a program of this session (a turned copy of the printer: wip/turnprint.py): for each Go function a plain one, and the walk that shows that the code comes to just its answers. -/
import Derived.Test.YtipkgplkeebhkaaMx0
import Derived.Test.YtipkgplkeebhkaaMx4
import Derived.Test.YtipkgplkeebhkaaMx6
namespace Go.Proofs.Ytipkgplkeebhkaa.M
open Go.RowKit Go.Proofs.YtipkgplkeebhkaaW.PrintWords Go.Proofs.YtipkgplkeebhkaaW.PrintLast Go.Proofs.YtipkgplkeebhkaaW.PrintMore
attribute [local go_sem] max2_int min2_int max_two min_two max_three min_three max_four min_four   -- for this text's walks alone
set_option linter.unusedVariables false
set_option linter.unusedSimpArgs false

/-! ### contralaw05_FrameTorn: function 11 -/
mutual
def contralaw05_FrameTorn.l0 : Nat → List (List Int) → Int → Int → List Int → List Int → List (List Int) → Int → Int → Option (Bool)
  | 0, _, _, _, _, _, _, _, _ => none
  | k + 1, x0, x1, x2, x7, x8, x25, x26, x27 => if x27 < x26 then (if 0 ≤ x27 then (if x27 < (x25.length : Int) then (if ((rd_L3 x25 x27).length : Int) > 300 then (some true) else ((frame_Append.f k x7 (rd_L3 x25 x27)).bind fun bt304 => (if bt304.2 = 0 then (if x8.length < 17592186044416 then (contralaw05_FrameTorn.l0 k x0 x1 x2 bt304.1 (x8 ++ [(bt304.1.length : Int)]) x25 x26 (wrap64 (x27 + 1))) else (none)) else (some false)))) else (none)) else (none)) else (if x1 < 0 then (contralaw05_FrameTorn.j1 k x0 x1 x2 x7 x8 true) else (contralaw05_FrameTorn.j1 k x0 x1 x2 x7 x8 (decide (x1 > (x7.length : Int)))))
def contralaw05_FrameTorn.j1 : Nat → List (List Int) → Int → Int → List Int → List Int → Bool → Option (Bool)
  | 0, _, _, _, _, _, _ => none
  | k + 1, x0, x1, x2, x7, x8, x56 => if x56 = true then (some true) else ((some (([] : List Int) : List Int)).bind fun y311 => (if 0 ≤ x1 then (if x1 ≤ (x7.length : Int) then ((some (x7.take (x1 : Int).toNat : List Int)).bind fun y314 => (if y311.length + y314.length < 140737488355328 then ((some (y311 ++ y314 : List Int)).bind fun y318 => (if x1 > 0 then (if 0 ≤ (wrap64 (x1 - 1)) then (if (wrap64 (x1 - 1)) < (y318.length : Int) then (contralaw05_FrameTorn.j2 k x0 x1 x2 x8 (y318.set ((wrap64 (x1 - 1)) : Int).toNat (Go.bits .xor .u8 (rd y318 (wrap64 (x1 - 1))) x2))) else (none)) else (none)) else (contralaw05_FrameTorn.j2 k x0 x1 x2 x8 y318))) else (none))) else (none)) else (none)))
def contralaw05_FrameTorn.j2 : Nat → List (List Int) → Int → Int → List Int → List Int → Option (Bool)
  | 0, _, _, _, _, _ => none
  | k + 1, x0, x1, x2, x8, x13 => contralaw05_FrameTorn.l1 k x0 x1 x2 x8 x13 0 x8 (x8.length : Int) 0
def contralaw05_FrameTorn.l1 : Nat → List (List Int) → Int → Int → List Int → List Int → Int → List Int → Int → Int → Option (Bool)
  | 0, _, _, _, _, _, _, _, _, _ => none
  | k + 1, x0, x1, x2, x8, x13, x14, x72, x73, x74 => if x74 < x73 then (if 0 ≤ x74 then (if x74 < (x72.length : Int) then (if (rd x72 x74) < x1 then (contralaw05_FrameTorn.l1 k x0 x1 x2 x8 x13 (wrap64 (x14 + 1)) x72 x73 (wrap64 (x74 + 1))) else (if (rd x72 x74) = x1 then (if x2 = 0 then (contralaw05_FrameTorn.l1 k x0 x1 x2 x8 x13 (wrap64 (x14 + 1)) x72 x73 (wrap64 (x74 + 1))) else (contralaw05_FrameTorn.l1 k x0 x1 x2 x8 x13 x14 x72 x73 (wrap64 (x74 + 1)))) else (contralaw05_FrameTorn.l1 k x0 x1 x2 x8 x13 x14 x72 x73 (wrap64 (x74 + 1))))) else (none)) else (none)) else ((frame_Scan.f k x13).bind fun bt324 => (if (bt324.1.length : Int) = x14 then (contralaw05_FrameTorn.l2 k x0 x8 x14 bt324.1 bt324.2 (bt324.1.length : Int) 0) else (some false)))
def contralaw05_FrameTorn.l2 : Nat → List (List Int) → List Int → Int → List (List Int) → Int → Int → Int → Option (Bool)
  | 0, _, _, _, _, _, _, _ => none
  | k + 1, x0, x8, x14, x17, x18, x103, x104 => if x104 < x103 then (if 0 ≤ x104 then (if x104 < (x17.length : Int) then (if x104 < (x0.length : Int) then (if (strOfNums (rd_L3 x17 x104)).toList = (strOfNums (rd_L3 x0 x104)).toList then (contralaw05_FrameTorn.l2 k x0 x8 x14 x17 x18 x103 (wrap64 (x104 + 1))) else (some false)) else (none)) else (none)) else (none)) else (if x14 = 0 then (if x18 = 0 then (some true) else (if x14 > 0 then (if 0 ≤ (wrap64 (x14 - 1)) then (if (wrap64 (x14 - 1)) < (x8.length : Int) then (some (x18 == (rd x8 (wrap64 (x14 - 1))))) else (none)) else (none)) else (some false))) else (if x14 > 0 then (if 0 ≤ (wrap64 (x14 - 1)) then (if (wrap64 (x14 - 1)) < (x8.length : Int) then (some (x18 == (rd x8 (wrap64 (x14 - 1))))) else (none)) else (none)) else (some false)))
end
def contralaw05_FrameTorn.f (k : Nat) (l0 : List (List Int)) (a1 : Int) (a2 : Int) : Option (Bool) := (contralaw05_records.f k).bind fun t302 => (if t302 = true then (if (l0.length : Int) > 10 then (some true) else (contralaw05_FrameTorn.l0 k l0 a1 a2 ([] : List Int) ([] : List Int) l0 (l0.length : Int) 0)) else (some false))
theorem contralaw05_FrameTorn.mono_l : ∀ k, (∀ y0 y1 y2 y3 y4 y5 y6 y7, LeO (contralaw05_FrameTorn.l0 k y0 y1 y2 y3 y4 y5 y6 y7) (contralaw05_FrameTorn.l0 (k + 1) y0 y1 y2 y3 y4 y5 y6 y7)) ∧ (∀ y0 y1 y2 y3 y4 y5, LeO (contralaw05_FrameTorn.j1 k y0 y1 y2 y3 y4 y5) (contralaw05_FrameTorn.j1 (k + 1) y0 y1 y2 y3 y4 y5)) ∧ (∀ y0 y1 y2 y3 y4, LeO (contralaw05_FrameTorn.j2 k y0 y1 y2 y3 y4) (contralaw05_FrameTorn.j2 (k + 1) y0 y1 y2 y3 y4)) ∧ (∀ y0 y1 y2 y3 y4 y5 y6 y7 y8, LeO (contralaw05_FrameTorn.l1 k y0 y1 y2 y3 y4 y5 y6 y7 y8) (contralaw05_FrameTorn.l1 (k + 1) y0 y1 y2 y3 y4 y5 y6 y7 y8)) ∧ (∀ y0 y1 y2 y3 y4 y5 y6, LeO (contralaw05_FrameTorn.l2 k y0 y1 y2 y3 y4 y5 y6) (contralaw05_FrameTorn.l2 (k + 1) y0 y1 y2 y3 y4 y5 y6))
  | 0 => ⟨fun _ _ _ _ _ _ _ _ r h => by simp [contralaw05_FrameTorn.l0] at h, fun _ _ _ _ _ _ r h => by simp [contralaw05_FrameTorn.j1] at h, fun _ _ _ _ _ r h => by simp [contralaw05_FrameTorn.j2] at h, fun _ _ _ _ _ _ _ _ _ r h => by simp [contralaw05_FrameTorn.l1] at h, fun _ _ _ _ _ _ _ r h => by simp [contralaw05_FrameTorn.l2] at h⟩
  | k + 1 => by
    obtain ⟨ih0, ih1, ih2, ih3, ih4⟩ := contralaw05_FrameTorn.mono_l k
    refine ⟨?_, ?_, ?_, ?_, ?_⟩
    · intro y0 y1 y2 y3 y4 y5 y6 y7
      unfold contralaw05_FrameTorn.l0
      repeat' first
      | (with_reducible exact ih0 _ _ _ _ _ _ _ _)
      | (with_reducible exact ih1 _ _ _ _ _ _)
      | (with_reducible exact ih2 _ _ _ _ _)
      | (with_reducible exact ih3 _ _ _ _ _ _ _ _ _)
      | (with_reducible exact ih4 _ _ _ _ _ _ _)
      | (with_reducible exact contralaw05_records.mono _)
      | (with_reducible exact frame_Append.mono _ _ _)
      | (with_reducible exact frame_Scan.mono _ _)
      | (with_reducible exact LeO.refl _)
      | (with_reducible exact LeO.none _)
      | (with_reducible refine LeO.ite ?_ ?_)
      | (with_reducible refine LeO.bind ?_ (fun _ => ?_))
      | exact ih0 _ _ _ _ _ _ _ _
      | exact ih1 _ _ _ _ _ _
      | exact ih2 _ _ _ _ _
      | exact ih3 _ _ _ _ _ _ _ _ _
      | exact ih4 _ _ _ _ _ _ _
      | exact contralaw05_records.mono _
      | exact frame_Append.mono _ _ _
      | exact frame_Scan.mono _ _
      | exact LeO.none _
      | refine LeO.ite ?_ ?_
      | refine LeO.bind ?_ (fun _ => ?_)
    · intro y0 y1 y2 y3 y4 y5
      unfold contralaw05_FrameTorn.j1
      repeat' first
      | (with_reducible exact ih0 _ _ _ _ _ _ _ _)
      | (with_reducible exact ih1 _ _ _ _ _ _)
      | (with_reducible exact ih2 _ _ _ _ _)
      | (with_reducible exact ih3 _ _ _ _ _ _ _ _ _)
      | (with_reducible exact ih4 _ _ _ _ _ _ _)
      | (with_reducible exact contralaw05_records.mono _)
      | (with_reducible exact frame_Append.mono _ _ _)
      | (with_reducible exact frame_Scan.mono _ _)
      | (with_reducible exact LeO.refl _)
      | (with_reducible exact LeO.none _)
      | (with_reducible refine LeO.ite ?_ ?_)
      | (with_reducible refine LeO.bind ?_ (fun _ => ?_))
      | exact ih0 _ _ _ _ _ _ _ _
      | exact ih1 _ _ _ _ _ _
      | exact ih2 _ _ _ _ _
      | exact ih3 _ _ _ _ _ _ _ _ _
      | exact ih4 _ _ _ _ _ _ _
      | exact contralaw05_records.mono _
      | exact frame_Append.mono _ _ _
      | exact frame_Scan.mono _ _
      | exact LeO.none _
      | refine LeO.ite ?_ ?_
      | refine LeO.bind ?_ (fun _ => ?_)
    · intro y0 y1 y2 y3 y4
      unfold contralaw05_FrameTorn.j2
      repeat' first
      | (with_reducible exact ih0 _ _ _ _ _ _ _ _)
      | (with_reducible exact ih1 _ _ _ _ _ _)
      | (with_reducible exact ih2 _ _ _ _ _)
      | (with_reducible exact ih3 _ _ _ _ _ _ _ _ _)
      | (with_reducible exact ih4 _ _ _ _ _ _ _)
      | (with_reducible exact contralaw05_records.mono _)
      | (with_reducible exact frame_Append.mono _ _ _)
      | (with_reducible exact frame_Scan.mono _ _)
      | (with_reducible exact LeO.refl _)
      | (with_reducible exact LeO.none _)
      | (with_reducible refine LeO.ite ?_ ?_)
      | (with_reducible refine LeO.bind ?_ (fun _ => ?_))
      | exact ih0 _ _ _ _ _ _ _ _
      | exact ih1 _ _ _ _ _ _
      | exact ih2 _ _ _ _ _
      | exact ih3 _ _ _ _ _ _ _ _ _
      | exact ih4 _ _ _ _ _ _ _
      | exact contralaw05_records.mono _
      | exact frame_Append.mono _ _ _
      | exact frame_Scan.mono _ _
      | exact LeO.none _
      | refine LeO.ite ?_ ?_
      | refine LeO.bind ?_ (fun _ => ?_)
    · intro y0 y1 y2 y3 y4 y5 y6 y7 y8
      unfold contralaw05_FrameTorn.l1
      repeat' first
      | (with_reducible exact ih0 _ _ _ _ _ _ _ _)
      | (with_reducible exact ih1 _ _ _ _ _ _)
      | (with_reducible exact ih2 _ _ _ _ _)
      | (with_reducible exact ih3 _ _ _ _ _ _ _ _ _)
      | (with_reducible exact ih4 _ _ _ _ _ _ _)
      | (with_reducible exact contralaw05_records.mono _)
      | (with_reducible exact frame_Append.mono _ _ _)
      | (with_reducible exact frame_Scan.mono _ _)
      | (with_reducible exact LeO.refl _)
      | (with_reducible exact LeO.none _)
      | (with_reducible refine LeO.ite ?_ ?_)
      | (with_reducible refine LeO.bind ?_ (fun _ => ?_))
      | exact ih0 _ _ _ _ _ _ _ _
      | exact ih1 _ _ _ _ _ _
      | exact ih2 _ _ _ _ _
      | exact ih3 _ _ _ _ _ _ _ _ _
      | exact ih4 _ _ _ _ _ _ _
      | exact contralaw05_records.mono _
      | exact frame_Append.mono _ _ _
      | exact frame_Scan.mono _ _
      | exact LeO.none _
      | refine LeO.ite ?_ ?_
      | refine LeO.bind ?_ (fun _ => ?_)
    · intro y0 y1 y2 y3 y4 y5 y6
      unfold contralaw05_FrameTorn.l2
      repeat' first
      | (with_reducible exact ih0 _ _ _ _ _ _ _ _)
      | (with_reducible exact ih1 _ _ _ _ _ _)
      | (with_reducible exact ih2 _ _ _ _ _)
      | (with_reducible exact ih3 _ _ _ _ _ _ _ _ _)
      | (with_reducible exact ih4 _ _ _ _ _ _ _)
      | (with_reducible exact contralaw05_records.mono _)
      | (with_reducible exact frame_Append.mono _ _ _)
      | (with_reducible exact frame_Scan.mono _ _)
      | (with_reducible exact LeO.refl _)
      | (with_reducible exact LeO.none _)
      | (with_reducible refine LeO.ite ?_ ?_)
      | (with_reducible refine LeO.bind ?_ (fun _ => ?_))
      | exact ih0 _ _ _ _ _ _ _ _
      | exact ih1 _ _ _ _ _ _
      | exact ih2 _ _ _ _ _
      | exact ih3 _ _ _ _ _ _ _ _ _
      | exact ih4 _ _ _ _ _ _ _
      | exact contralaw05_records.mono _
      | exact frame_Append.mono _ _ _
      | exact frame_Scan.mono _ _
      | exact LeO.none _
      | refine LeO.ite ?_ ?_
      | refine LeO.bind ?_ (fun _ => ?_)
theorem contralaw05_FrameTorn.mono : ∀ a0 a1 a2 k, LeO (contralaw05_FrameTorn.f k a0 a1 a2) (contralaw05_FrameTorn.f (k + 1) a0 a1 a2) := by
  intro a0 a1 a2 k
  obtain ⟨ih0, ih1, ih2, ih3, ih4⟩ := contralaw05_FrameTorn.mono_l k
  unfold contralaw05_FrameTorn.f
  repeat' first
      | (with_reducible exact ih0 _ _ _ _ _ _ _ _)
      | (with_reducible exact ih1 _ _ _ _ _ _)
      | (with_reducible exact ih2 _ _ _ _ _)
      | (with_reducible exact ih3 _ _ _ _ _ _ _ _ _)
      | (with_reducible exact ih4 _ _ _ _ _ _ _)
      | (with_reducible exact contralaw05_records.mono _)
      | (with_reducible exact frame_Append.mono _ _ _)
      | (with_reducible exact frame_Scan.mono _ _)
      | (with_reducible exact LeO.refl _)
      | (with_reducible exact LeO.none _)
      | (with_reducible refine LeO.ite ?_ ?_)
      | (with_reducible refine LeO.bind ?_ (fun _ => ?_))
      | exact ih0 _ _ _ _ _ _ _ _
      | exact ih1 _ _ _ _ _ _
      | exact ih2 _ _ _ _ _
      | exact ih3 _ _ _ _ _ _ _ _ _
      | exact ih4 _ _ _ _ _ _ _
      | exact contralaw05_records.mono _
      | exact frame_Append.mono _ _ _
      | exact frame_Scan.mono _ _
      | exact LeO.none _
      | refine LeO.ite ?_ ?_
      | refine LeO.bind ?_ (fun _ => ?_)
set_option maxHeartbeats 8000000 in
set_option maxRecDepth 100000 in
theorem contralaw05_FrameTorn.calls (k : Nat) (A0 : Option Addr) (c0 : Nat) (l0 : List (List Int)) (a1 : Int) (a2 : Int) (r : Bool) (w : World) (hr0 : Kd.C (Kd.slice 5 (Kd.int .u8)) w A0 l0.length l0) (hc0 : l0.length ≤ c0) (h : contralaw05_FrameTorn.f k l0 a1 a2 = some r) :
    Calls Try.prog 11 #[.slice A0 l0.length c0, .int .i64 a1, .int .u8 a2] w fun e w' => e = .returned (.bool r) ∧ Below w.heap.size w w' := by
  have HR0 := Aside0.mk hr0
  have HC0 := Aside0.mk hc0
  clear hr0 hc0
  have HB := Aside0.mk (Below.refl w.heap.size w)
  have H : ((contralaw05_records.f k).bind fun t302 => (if t302 = true then (if (l0.length : Int) > 10 then (some true) else (contralaw05_FrameTorn.l0 k l0 a1 a2 ([] : List Int) ([] : List Int) l0 (l0.length : Int) 0)) else (some false))) = some r := h
  clear h
  replace H := Option.bind_eq_some_iff.mp H
  obtain ⟨t302, A40, H⟩ := H
  replace H : (if t302 = true then (if (l0.length : Int) > 10 then (some true) else (contralaw05_FrameTorn.l0 k l0 a1 a2 ([] : List Int) ([] : List Int) l0 (l0.length : Int) 0)) else (some false)) = some r := H
  have A4 := Aside0.mk A40
  clear A40
  by_cases c5 : t302 = true
  · subst c5
    have H1 : (if (l0.length : Int) > 10 then (some true) else (contralaw05_FrameTorn.l0 k l0 a1 a2 ([] : List Int) ([] : List Int) l0 (l0.length : Int) 0)) = some r := by rw [if_pos rfl] at H; exact H
    clear H
    have H := H1
    clear H1
    by_cases c6 : (l0.length : Int) > 10
    · rw [if_pos c6] at H
      have c6b0 : decide (10 < (l0.length : Int)) = true := decide_eq_true c6
      have c6b1 : decide (10 < l0.length) = true := decide_eq_true (by omega)
      clear c6
      obtain rfl := Option.some.inj H
      go_enter Try.func11, Try.ntmps11
      go_wp2_with (first | (go_at_call 18; (with_reducible refine (contralaw05_records.calls k  true _ A4.out).mono ?_); rintro e w7 ⟨rfl, hb⟩; have n0_ := Aside0.mk (below_step (by repeat (first | (with_reducible first | exact HB.out | apply below_alloc | apply pw_below_drewN | apply below_drew1) | exact HB.out)) hb); clear HB; have HB := n0_; clear n0_; (try clear hb); (try clear hb2); (try clear hk); (try clear hi)))
      repeat (go_quiet (first | (go_at_call 18; (with_reducible refine (contralaw05_records.calls k  true _ A4.out).mono ?_); rintro e w7 ⟨rfl, hb⟩; have n0_ := Aside0.mk (below_step (by repeat (first | (with_reducible first | exact HB.out | apply below_alloc | apply pw_below_drewN | apply below_drew1) | exact HB.out)) hb); clear HB; have HB := n0_; clear n0_; (try clear hb); (try clear hb2); (try clear hk); (try clear hi))); try go_wp2_with (first | (go_at_call 18; (with_reducible refine (contralaw05_records.calls k  true _ A4.out).mono ?_); rintro e w7 ⟨rfl, hb⟩; have n0_ := Aside0.mk (below_step (by repeat (first | (with_reducible first | exact HB.out | apply below_alloc | apply pw_below_drewN | apply below_drew1) | exact HB.out)) hb); clear HB; have HB := n0_; clear n0_; (try clear hb); (try clear hb2); (try clear hk); (try clear hi))))
      go_ret
      exact ⟨by first | rfl | (simp [errW_none, errW_some] <;> rfl) | (simp [*, errW_none, errW_some] <;> rfl), by repeat (first | (with_reducible first | exact HB.out | apply below_alloc | apply pw_below_drewN | apply below_drew1) | exact HB.out)⟩
    · rw [if_neg c6] at H
      have c6b0 : decide (10 < (l0.length : Int)) = false := decide_eq_false c6
      have c6b1 : decide (10 < l0.length) = false := decide_eq_false (by omega)
      clear c6
      have H' := Aside0.mk H
      clear H
      go_enter Try.func11, Try.ntmps11
      go_wp2_with (first | (go_at_call 18; (with_reducible refine (contralaw05_records.calls k  true _ A4.out).mono ?_); rintro e w8 ⟨rfl, hb⟩; have n0_ := Aside0.mk (below_step (by repeat (first | (with_reducible first | exact HB.out | apply below_alloc | apply pw_below_drewN | apply below_drew1) | exact HB.out)) hb); clear HB; have HB := n0_; clear n0_; (try clear hb); (try clear hb2); (try clear hk); (try clear hi)))
      repeat (go_quiet (first | (go_at_call 18; (with_reducible refine (contralaw05_records.calls k  true _ A4.out).mono ?_); rintro e w8 ⟨rfl, hb⟩; have n0_ := Aside0.mk (below_step (by repeat (first | (with_reducible first | exact HB.out | apply below_alloc | apply pw_below_drewN | apply below_drew1) | exact HB.out)) hb); clear HB; have HB := n0_; clear n0_; (try clear hb); (try clear hb2); (try clear hk); (try clear hi))); try go_wp2_with (first | (go_at_call 18; (with_reducible refine (contralaw05_records.calls k  true _ A4.out).mono ?_); rintro e w8 ⟨rfl, hb⟩; have n0_ := Aside0.mk (below_step (by repeat (first | (with_reducible first | exact HB.out | apply below_alloc | apply pw_below_drewN | apply below_drew1) | exact HB.out)) hb); clear HB; have HB := n0_; clear n0_; (try clear hb); (try clear hb2); (try clear hk); (try clear hi))))
      go_loopg [7, 8, 27] k (fun kq v7 v8 v27 w' => ∃ (x7_1 : List Int) (x8_1 : List Int) (x27_1 : Int), v27 = .int .i64 x27_1 ∧ Aside0 (contralaw05_FrameTorn.l0 kq l0 a1 a2 x7_1 x8_1 l0 (l0.length : Int) x27_1 = some r) ∧ Aside0 (kq ≤ k) ∧ Aside0 (Kd.R (Kd.int .u8) 5 w' w.heap.size (fun _ => True) v7 x7_1) ∧ Aside0 (Kd.R (Kd.int .i64) 3 w' w.heap.size (fun _ => True) v8 x8_1) ∧ Aside0 (Below w.heap.size w w'))
      case atStart => exact ⟨(([] : List Int)), (([] : List Int)), (0), (by first | rfl | (simp; done) | (simp [*]; done)), H', ⟨Nat.le_refl _⟩, ⟨by first | exact Kd.R_nil _ _ _ _ _ | exact Kd.N_nil _ _ _ _ _ | exact Kd.V_nil _ _ _ _ _ | exact Kd.Q_nil _ _ _ _ _ | exact Kd.S_nil _ _ _ _ _⟩, ⟨by first | exact Kd.R_nil _ _ _ _ _ | exact Kd.N_nil _ _ _ _ _ | exact Kd.V_nil _ _ _ _ _ | exact Kd.Q_nil _ _ _ _ _ | exact Kd.S_nil _ _ _ _ _⟩, ⟨by repeat (first | (with_reducible first | exact HB.out | apply below_alloc | apply pw_below_drewN | apply below_drew1) | exact HB.out)⟩⟩
      case round =>
        clear H'
        try clear c1
        try clear p2
        try clear c5
        try clear c6
        try clear c6b0
        try clear c6b1
        obtain ⟨x7_1, x8_1, x27_1, rfl, HA, HK1, HO_7, HO_8, HB⟩ := hrel
        cases gk with
        | zero => exact absurd HA.out (by simp [contralaw05_FrameTorn.l0])
        | succ k1 =>
          have H := HA.out
          clear HA
          simp only [contralaw05_FrameTorn.l0] at H
          by_cases c9 : x27_1 < (l0.length : Int)
          · rw [if_pos c9] at H
            have c9b0 : decide (x27_1 < (l0.length : Int)) = true := decide_eq_true c9
            clear c9
            by_cases c10 : 0 ≤ x27_1
            · rw [if_pos c10] at H
              have c10b0 : decide (0 ≤ x27_1) = true := decide_eq_true c10
              clear c10
              by_cases c11 : x27_1 < (l0.length : Int)
              · rw [if_pos c11] at H
                have c11b0 : decide (x27_1 < (l0.length : Int)) = true := decide_eq_true c11
                clear c11
                by_cases c12 : ((rd_L3 l0 x27_1).length : Int) > 300
                · rw [if_pos c12] at H
                  have c12b0 : decide (300 < ((rd_L3 l0 x27_1).length : Int)) = true := decide_eq_true c12
                  have c12b1 : decide (300 < (rd_L3 l0 x27_1).length) = true := decide_eq_true (by omega)
                  clear c12
                  obtain rfl := Option.some.inj H
                  have p303 : 0 ≤ (x27_1 : Int) := of_decide_eq_true (by first | (with_reducible assumption) | assumption)
                  have q303 : x27_1 < (l0.length : Int) := of_decide_eq_true (by first | (with_reducible assumption) | assumption)
                  obtain ⟨ad303, A303_0, c303_0, e303, hx303_0, hl303_0, hi303_0⟩ := at_L3 HR0.out x27_1 p303 q303
                  cases e303
                  replace hx303_0 := (HB.out.cell (World.block_lt_of_cell? w _ hx303_0)).trans hx303_0
                  have HR303_0 := Aside0.mk hi303_0
                  have HC303_0 := Aside0.mk hl303_0
                  clear hi303_0 hl303_0
                  replace p303 := eq_true p303
                  replace q303 := eq_true q303
                  go_wp2
                  repeat (go_quiet (fail); try go_wp2)
                  go_ret
                  exact ⟨by first | rfl | (simp [errW_none, errW_some] <;> rfl) | (simp [*, errW_none, errW_some] <;> rfl), by repeat (first | (with_reducible first | exact HB.out | apply below_alloc | apply pw_below_drewN | apply below_drew1) | exact HB.out)⟩
                · rw [if_neg c12] at H
                  have c12b0 : decide (300 < ((rd_L3 l0 x27_1).length : Int)) = false := decide_eq_false c12
                  have c12b1 : decide (300 < (rd_L3 l0 x27_1).length) = false := decide_eq_false (by omega)
                  clear c12
                  replace H := Option.bind_eq_some_iff.mp H
                  obtain ⟨⟨t304, t305⟩, A130, H⟩ := H
                  replace H : (if t305 = 0 then (if x8_1.length < 17592186044416 then (contralaw05_FrameTorn.l0 k1 l0 a1 a2 t304 (x8_1 ++ [(t304.length : Int)]) l0 (l0.length : Int) (wrap64 (x27_1 + 1))) else (none)) else (some false)) = some r := H
                  have A13 := Aside0.mk A130
                  clear A130
                  by_cases c14 : t305 = 0
                  · rw [if_pos c14] at H
                    have c14b0 : (t305 == 0) = true := beq_iff_eq.mpr c14
                    have c14b1 : (t305 != 0) = false := bne_eq_false_iff_eq.mpr c14
                    clear c14
                    by_cases c15 : x8_1.length < 17592186044416
                    · rw [if_pos c15] at H
                      have LMc15 := Aside0.mk c15
                      clear c15
                      obtain ⟨y308, hy308⟩ : ∃ y_ : List Int, y_ = (x8_1 ++ [(t304.length : Int)]) := ⟨_, rfl⟩
                      replace H : (contralaw05_FrameTorn.l0 k1 l0 a1 a2 t304 y308 l0 (l0.length : Int) (wrap64 (x27_1 + 1))) = some r := by first | (rw [hy308]; with_reducible exact H) | (have H2_ := (Option.bind_some _ _).symm.trans H; rw [hy308]; with_reducible exact H2_) | (have H2_ := (Option.bind_some _ _).symm.trans H; with_reducible exact H2_) | with_reducible exact H | (rw [hy308]; exact H) | exact H
                      have Ny308 := Aside0.mk hy308
                      clear hy308
                      have H' := Aside0.mk H
                      clear H
                      have p303 : 0 ≤ (x27_1 : Int) := of_decide_eq_true (by first | (with_reducible assumption) | assumption)
                      have q303 : x27_1 < (l0.length : Int) := of_decide_eq_true (by first | (with_reducible assumption) | assumption)
                      obtain ⟨ad303, A303_0, c303_0, e303, hx303_0, hl303_0, hi303_0⟩ := at_L3 HR0.out x27_1 p303 q303
                      cases e303
                      replace hx303_0 := (HB.out.cell (World.block_lt_of_cell? w _ hx303_0)).trans hx303_0
                      have HR303_0 := Aside0.mk hi303_0
                      have HC303_0 := Aside0.mk hl303_0
                      clear hi303_0 hl303_0
                      replace p303 := eq_true p303
                      replace q303 := eq_true q303
                      obtain ⟨Ao16, co16, eo16⟩ := Kd.R_slice HO_7.out
                      subst eo16
                      go_wp2_with (first | (go_at_call 19; (with_reducible refine (frame_Append.calls k1 _ _ x7_1 _ _ (rd_L3 l0 x27_1) t304 t305 _ ?side1 ?side2 ?side3 ?side4 A13.out).mono ?_); (case side1 => repeat (first | exact (Kd.R_reads' HO_7.out).2.2 | (with_reducible refine Kd.C_alloc ?_ _) | (with_reducible refine Kd.C_drewN ?_ _) | (with_reducible refine Kd.C_drew ?_))); (case side2 => exact (Kd.R_reads' HO_7.out).2.1); (case side3 => repeat (first | exact (Kd.C_below HR303_0.out HB.out) | (with_reducible refine Kd.C_alloc ?_ _) | (with_reducible refine Kd.C_drewN ?_ _) | (with_reducible refine Kd.C_drew ?_))); (case side4 => exact HC303_0.out); rintro e w17 ⟨v306, rfl, ho0, hb⟩; have n0_ := Aside0.mk (Kd.R_elder' (by (with_reducible repeat (first | apply Kd.R_alloc | apply Kd.R_drewN | apply Kd.R_drew)); exact HO_7.out) (Kd.R_base ho0) hb); have n1_ := Aside0.mk (Kd.R_below (by (with_reducible repeat (first | apply Kd.R_alloc | apply Kd.R_drewN | apply Kd.R_drew)); exact HO_8.out) hb); have n2_ := Aside0.mk (Kd.R_lower (Kd.R_new' ho0 (Kd.R_lt (by (with_reducible repeat (first | apply Kd.R_alloc | apply Kd.R_drewN | apply Kd.R_drew)); exact HO_7.out))) (below_size (by repeat (first | (with_reducible first | exact HB.out | apply below_alloc | apply pw_below_drewN | apply below_drew1) | exact HB.out)))); have n3_ := Aside0.mk (below_step (by repeat (first | (with_reducible first | exact HB.out | apply below_alloc | apply pw_below_drewN | apply below_drew1) | exact HB.out)) hb); clear HO_7; clear HO_8; clear HB; have HO_7 := n0_; have HO_8 := n1_; have HO307 := n2_; have HB := n3_; clear n0_ n1_ n2_ n3_; (try clear hb); (try clear hb2); (try clear hk); (try clear hi); (try clear ho0); obtain ⟨Ao18, co18, eo18⟩ := Kd.R_slice HO307.out; subst eo18) | ((with_reducible refine gate_builtin (b := .append) (xs := #[.tmp 43, .tmp 46]) rfl ?_); (try (refine gate_guard (by rfl) ?_; dsimp only)); at_builtin; refine Kd.R_append (Kd.int .i64) (w0 := w) w.heap.size rfl (.tmp 43) (.tmp 46) 51 3 (.int .i64 0) 8 rfl Try.underlying51 info3 rfl (by decide) (by omega) u8 x8_1 (t304.length : Int) [.int .i64 (t304.length : Int)] (fun _ => True) (fun _ => False) rfl rfl ?aP (fun _ hk => hk.elim) ?aF ?aO ?aB ?aS ?aL ?_; (case aP => exact rfl); (case aB => exact (by repeat (first | (with_reducible first | exact HB.out | apply below_alloc | apply pw_below_drewN | apply below_drew1) | exact HB.out))); (case aF => exact (fun _ _ => trivial)); (case aO => exact (by (with_reducible repeat (first | apply Kd.R_alloc | apply Kd.R_drewN | apply Kd.R_drew)); exact HO_8.out)); (case aS => exact (below_size (by repeat (first | (with_reducible first | exact HB.out | apply below_alloc | apply pw_below_drewN | apply below_drew1) | exact HB.out)))); (case aL => have := LMc15.out; omega); intro v309 w19 ho hb hg hat; rw [← Ny308.out] at ho; have n0_ := Aside0.mk (Kd.R_over' (by (with_reducible repeat (first | apply Kd.R_alloc | apply Kd.R_drewN | apply Kd.R_drew)); exact HO_7.out) (Kd.R_typed (by (with_reducible repeat (first | apply Kd.R_alloc | apply Kd.R_drewN | apply Kd.R_drew)); exact HO_8.out)) (by decide) hg); have n1_ := Aside0.mk (Kd.R_over' (by (with_reducible repeat (first | apply Kd.R_alloc | apply Kd.R_drewN | apply Kd.R_drew)); exact HO307.out) (Kd.R_typed (by (with_reducible repeat (first | apply Kd.R_alloc | apply Kd.R_drewN | apply Kd.R_drew)); exact HO_8.out)) (by decide) hg); have n2_ := Aside0.mk (hb); have n3_ := Aside0.mk (ho); clear HO_7; clear HO307; clear HB; clear HO_8; have HO_7 := n0_; have HO307 := n1_; have HB := n2_; have HO310 := n3_; clear n0_ n1_ n2_ n3_; clear ho hb hg hat))
                      repeat (go_quiet (first | (go_at_call 19; (with_reducible refine (frame_Append.calls k1 _ _ x7_1 _ _ (rd_L3 l0 x27_1) t304 t305 _ ?side1 ?side2 ?side3 ?side4 A13.out).mono ?_); (case side1 => repeat (first | exact (Kd.R_reads' HO_7.out).2.2 | (with_reducible refine Kd.C_alloc ?_ _) | (with_reducible refine Kd.C_drewN ?_ _) | (with_reducible refine Kd.C_drew ?_))); (case side2 => exact (Kd.R_reads' HO_7.out).2.1); (case side3 => repeat (first | exact (Kd.C_below HR303_0.out HB.out) | (with_reducible refine Kd.C_alloc ?_ _) | (with_reducible refine Kd.C_drewN ?_ _) | (with_reducible refine Kd.C_drew ?_))); (case side4 => exact HC303_0.out); rintro e w17 ⟨v306, rfl, ho0, hb⟩; have n0_ := Aside0.mk (Kd.R_elder' (by (with_reducible repeat (first | apply Kd.R_alloc | apply Kd.R_drewN | apply Kd.R_drew)); exact HO_7.out) (Kd.R_base ho0) hb); have n1_ := Aside0.mk (Kd.R_below (by (with_reducible repeat (first | apply Kd.R_alloc | apply Kd.R_drewN | apply Kd.R_drew)); exact HO_8.out) hb); have n2_ := Aside0.mk (Kd.R_lower (Kd.R_new' ho0 (Kd.R_lt (by (with_reducible repeat (first | apply Kd.R_alloc | apply Kd.R_drewN | apply Kd.R_drew)); exact HO_7.out))) (below_size (by repeat (first | (with_reducible first | exact HB.out | apply below_alloc | apply pw_below_drewN | apply below_drew1) | exact HB.out)))); have n3_ := Aside0.mk (below_step (by repeat (first | (with_reducible first | exact HB.out | apply below_alloc | apply pw_below_drewN | apply below_drew1) | exact HB.out)) hb); clear HO_7; clear HO_8; clear HB; have HO_7 := n0_; have HO_8 := n1_; have HO307 := n2_; have HB := n3_; clear n0_ n1_ n2_ n3_; (try clear hb); (try clear hb2); (try clear hk); (try clear hi); (try clear ho0); obtain ⟨Ao18, co18, eo18⟩ := Kd.R_slice HO307.out; subst eo18) | ((with_reducible refine gate_builtin (b := .append) (xs := #[.tmp 43, .tmp 46]) rfl ?_); (try (refine gate_guard (by rfl) ?_; dsimp only)); at_builtin; refine Kd.R_append (Kd.int .i64) (w0 := w) w.heap.size rfl (.tmp 43) (.tmp 46) 51 3 (.int .i64 0) 8 rfl Try.underlying51 info3 rfl (by decide) (by omega) u8 x8_1 (t304.length : Int) [.int .i64 (t304.length : Int)] (fun _ => True) (fun _ => False) rfl rfl ?aP (fun _ hk => hk.elim) ?aF ?aO ?aB ?aS ?aL ?_; (case aP => exact rfl); (case aB => exact (by repeat (first | (with_reducible first | exact HB.out | apply below_alloc | apply pw_below_drewN | apply below_drew1) | exact HB.out))); (case aF => exact (fun _ _ => trivial)); (case aO => exact (by (with_reducible repeat (first | apply Kd.R_alloc | apply Kd.R_drewN | apply Kd.R_drew)); exact HO_8.out)); (case aS => exact (below_size (by repeat (first | (with_reducible first | exact HB.out | apply below_alloc | apply pw_below_drewN | apply below_drew1) | exact HB.out)))); (case aL => have := LMc15.out; omega); intro v309 w19 ho hb hg hat; rw [← Ny308.out] at ho; have n0_ := Aside0.mk (Kd.R_over' (by (with_reducible repeat (first | apply Kd.R_alloc | apply Kd.R_drewN | apply Kd.R_drew)); exact HO_7.out) (Kd.R_typed (by (with_reducible repeat (first | apply Kd.R_alloc | apply Kd.R_drewN | apply Kd.R_drew)); exact HO_8.out)) (by decide) hg); have n1_ := Aside0.mk (Kd.R_over' (by (with_reducible repeat (first | apply Kd.R_alloc | apply Kd.R_drewN | apply Kd.R_drew)); exact HO307.out) (Kd.R_typed (by (with_reducible repeat (first | apply Kd.R_alloc | apply Kd.R_drewN | apply Kd.R_drew)); exact HO_8.out)) (by decide) hg); have n2_ := Aside0.mk (hb); have n3_ := Aside0.mk (ho); clear HO_7; clear HO307; clear HB; clear HO_8; have HO_7 := n0_; have HO307 := n1_; have HB := n2_; have HO310 := n3_; clear n0_ n1_ n2_ n3_; clear ho hb hg hat)); try go_wp2_with (first | (go_at_call 19; (with_reducible refine (frame_Append.calls k1 _ _ x7_1 _ _ (rd_L3 l0 x27_1) t304 t305 _ ?side1 ?side2 ?side3 ?side4 A13.out).mono ?_); (case side1 => repeat (first | exact (Kd.R_reads' HO_7.out).2.2 | (with_reducible refine Kd.C_alloc ?_ _) | (with_reducible refine Kd.C_drewN ?_ _) | (with_reducible refine Kd.C_drew ?_))); (case side2 => exact (Kd.R_reads' HO_7.out).2.1); (case side3 => repeat (first | exact (Kd.C_below HR303_0.out HB.out) | (with_reducible refine Kd.C_alloc ?_ _) | (with_reducible refine Kd.C_drewN ?_ _) | (with_reducible refine Kd.C_drew ?_))); (case side4 => exact HC303_0.out); rintro e w17 ⟨v306, rfl, ho0, hb⟩; have n0_ := Aside0.mk (Kd.R_elder' (by (with_reducible repeat (first | apply Kd.R_alloc | apply Kd.R_drewN | apply Kd.R_drew)); exact HO_7.out) (Kd.R_base ho0) hb); have n1_ := Aside0.mk (Kd.R_below (by (with_reducible repeat (first | apply Kd.R_alloc | apply Kd.R_drewN | apply Kd.R_drew)); exact HO_8.out) hb); have n2_ := Aside0.mk (Kd.R_lower (Kd.R_new' ho0 (Kd.R_lt (by (with_reducible repeat (first | apply Kd.R_alloc | apply Kd.R_drewN | apply Kd.R_drew)); exact HO_7.out))) (below_size (by repeat (first | (with_reducible first | exact HB.out | apply below_alloc | apply pw_below_drewN | apply below_drew1) | exact HB.out)))); have n3_ := Aside0.mk (below_step (by repeat (first | (with_reducible first | exact HB.out | apply below_alloc | apply pw_below_drewN | apply below_drew1) | exact HB.out)) hb); clear HO_7; clear HO_8; clear HB; have HO_7 := n0_; have HO_8 := n1_; have HO307 := n2_; have HB := n3_; clear n0_ n1_ n2_ n3_; (try clear hb); (try clear hb2); (try clear hk); (try clear hi); (try clear ho0); obtain ⟨Ao18, co18, eo18⟩ := Kd.R_slice HO307.out; subst eo18) | ((with_reducible refine gate_builtin (b := .append) (xs := #[.tmp 43, .tmp 46]) rfl ?_); (try (refine gate_guard (by rfl) ?_; dsimp only)); at_builtin; refine Kd.R_append (Kd.int .i64) (w0 := w) w.heap.size rfl (.tmp 43) (.tmp 46) 51 3 (.int .i64 0) 8 rfl Try.underlying51 info3 rfl (by decide) (by omega) u8 x8_1 (t304.length : Int) [.int .i64 (t304.length : Int)] (fun _ => True) (fun _ => False) rfl rfl ?aP (fun _ hk => hk.elim) ?aF ?aO ?aB ?aS ?aL ?_; (case aP => exact rfl); (case aB => exact (by repeat (first | (with_reducible first | exact HB.out | apply below_alloc | apply pw_below_drewN | apply below_drew1) | exact HB.out))); (case aF => exact (fun _ _ => trivial)); (case aO => exact (by (with_reducible repeat (first | apply Kd.R_alloc | apply Kd.R_drewN | apply Kd.R_drew)); exact HO_8.out)); (case aS => exact (below_size (by repeat (first | (with_reducible first | exact HB.out | apply below_alloc | apply pw_below_drewN | apply below_drew1) | exact HB.out)))); (case aL => have := LMc15.out; omega); intro v309 w19 ho hb hg hat; rw [← Ny308.out] at ho; have n0_ := Aside0.mk (Kd.R_over' (by (with_reducible repeat (first | apply Kd.R_alloc | apply Kd.R_drewN | apply Kd.R_drew)); exact HO_7.out) (Kd.R_typed (by (with_reducible repeat (first | apply Kd.R_alloc | apply Kd.R_drewN | apply Kd.R_drew)); exact HO_8.out)) (by decide) hg); have n1_ := Aside0.mk (Kd.R_over' (by (with_reducible repeat (first | apply Kd.R_alloc | apply Kd.R_drewN | apply Kd.R_drew)); exact HO307.out) (Kd.R_typed (by (with_reducible repeat (first | apply Kd.R_alloc | apply Kd.R_drewN | apply Kd.R_drew)); exact HO_8.out)) (by decide) hg); have n2_ := Aside0.mk (hb); have n3_ := Aside0.mk (ho); clear HO_7; clear HO307; clear HB; clear HO_8; have HO_7 := n0_; have HO307 := n1_; have HB := n2_; have HO310 := n3_; clear n0_ n1_ n2_ n3_; clear ho hb hg hat)))
                      go_roundg k1
                      case measure => have := HK1.out; omega
                      case rel => exact ⟨(t304), (y308), (wrap64 (x27_1 + 1)), (by first | rfl | (simp; done) | (simp [*]; done)), H', ⟨by have := HK1.out; omega⟩, ⟨by (with_reducible repeat (first | apply Kd.R_alloc | apply Kd.R_drewN | apply Kd.R_drew)); exact Kd.R_mono HO307.out (fun _ hk => trivial)⟩, ⟨by (with_reducible repeat (first | apply Kd.R_alloc | apply Kd.R_drewN | apply Kd.R_drew)); exact HO310.out⟩, ⟨by repeat (first | (with_reducible first | exact HB.out | apply below_alloc | apply pw_below_drewN | apply below_drew1) | exact HB.out)⟩⟩
                    · rw [if_neg c15] at H
                      exact absurd H (by simp)
                  · rw [if_neg c14] at H
                    have c14b0 : (t305 == 0) = false := beq_eq_false_iff_ne.mpr c14
                    have c14b1 : (t305 != 0) = true := bne_iff_ne.mpr c14
                    obtain rfl := Option.some.inj H
                    have p303 : 0 ≤ (x27_1 : Int) := of_decide_eq_true (by first | (with_reducible assumption) | assumption)
                    have q303 : x27_1 < (l0.length : Int) := of_decide_eq_true (by first | (with_reducible assumption) | assumption)
                    obtain ⟨ad303, A303_0, c303_0, e303, hx303_0, hl303_0, hi303_0⟩ := at_L3 HR0.out x27_1 p303 q303
                    cases e303
                    replace hx303_0 := (HB.out.cell (World.block_lt_of_cell? w _ hx303_0)).trans hx303_0
                    have HR303_0 := Aside0.mk hi303_0
                    have HC303_0 := Aside0.mk hl303_0
                    clear hi303_0 hl303_0
                    replace p303 := eq_true p303
                    replace q303 := eq_true q303
                    obtain ⟨Ao20, co20, eo20⟩ := Kd.R_slice HO_7.out
                    subst eo20
                    go_wp2_with (first | (go_at_call 19; (with_reducible refine (frame_Append.calls k1 _ _ x7_1 _ _ (rd_L3 l0 x27_1) t304 t305 _ ?side1 ?side2 ?side3 ?side4 A13.out).mono ?_); (case side1 => repeat (first | exact (Kd.R_reads' HO_7.out).2.2 | (with_reducible refine Kd.C_alloc ?_ _) | (with_reducible refine Kd.C_drewN ?_ _) | (with_reducible refine Kd.C_drew ?_))); (case side2 => exact (Kd.R_reads' HO_7.out).2.1); (case side3 => repeat (first | exact (Kd.C_below HR303_0.out HB.out) | (with_reducible refine Kd.C_alloc ?_ _) | (with_reducible refine Kd.C_drewN ?_ _) | (with_reducible refine Kd.C_drew ?_))); (case side4 => exact HC303_0.out); rintro e w21 ⟨v306, rfl, ho0, hb⟩; have n0_ := Aside0.mk (Kd.R_elder' (by (with_reducible repeat (first | apply Kd.R_alloc | apply Kd.R_drewN | apply Kd.R_drew)); exact HO_7.out) (Kd.R_base ho0) hb); have n1_ := Aside0.mk (Kd.R_below (by (with_reducible repeat (first | apply Kd.R_alloc | apply Kd.R_drewN | apply Kd.R_drew)); exact HO_8.out) hb); have n2_ := Aside0.mk (Kd.R_lower (Kd.R_new' ho0 (Kd.R_lt (by (with_reducible repeat (first | apply Kd.R_alloc | apply Kd.R_drewN | apply Kd.R_drew)); exact HO_7.out))) (below_size (by repeat (first | (with_reducible first | exact HB.out | apply below_alloc | apply pw_below_drewN | apply below_drew1) | exact HB.out)))); have n3_ := Aside0.mk (below_step (by repeat (first | (with_reducible first | exact HB.out | apply below_alloc | apply pw_below_drewN | apply below_drew1) | exact HB.out)) hb); clear HO_7; clear HO_8; clear HB; have HO_7 := n0_; have HO_8 := n1_; have HO307 := n2_; have HB := n3_; clear n0_ n1_ n2_ n3_; (try clear hb); (try clear hb2); (try clear hk); (try clear hi); (try clear ho0)))
                    repeat (go_quiet (first | (go_at_call 19; (with_reducible refine (frame_Append.calls k1 _ _ x7_1 _ _ (rd_L3 l0 x27_1) t304 t305 _ ?side1 ?side2 ?side3 ?side4 A13.out).mono ?_); (case side1 => repeat (first | exact (Kd.R_reads' HO_7.out).2.2 | (with_reducible refine Kd.C_alloc ?_ _) | (with_reducible refine Kd.C_drewN ?_ _) | (with_reducible refine Kd.C_drew ?_))); (case side2 => exact (Kd.R_reads' HO_7.out).2.1); (case side3 => repeat (first | exact (Kd.C_below HR303_0.out HB.out) | (with_reducible refine Kd.C_alloc ?_ _) | (with_reducible refine Kd.C_drewN ?_ _) | (with_reducible refine Kd.C_drew ?_))); (case side4 => exact HC303_0.out); rintro e w21 ⟨v306, rfl, ho0, hb⟩; have n0_ := Aside0.mk (Kd.R_elder' (by (with_reducible repeat (first | apply Kd.R_alloc | apply Kd.R_drewN | apply Kd.R_drew)); exact HO_7.out) (Kd.R_base ho0) hb); have n1_ := Aside0.mk (Kd.R_below (by (with_reducible repeat (first | apply Kd.R_alloc | apply Kd.R_drewN | apply Kd.R_drew)); exact HO_8.out) hb); have n2_ := Aside0.mk (Kd.R_lower (Kd.R_new' ho0 (Kd.R_lt (by (with_reducible repeat (first | apply Kd.R_alloc | apply Kd.R_drewN | apply Kd.R_drew)); exact HO_7.out))) (below_size (by repeat (first | (with_reducible first | exact HB.out | apply below_alloc | apply pw_below_drewN | apply below_drew1) | exact HB.out)))); have n3_ := Aside0.mk (below_step (by repeat (first | (with_reducible first | exact HB.out | apply below_alloc | apply pw_below_drewN | apply below_drew1) | exact HB.out)) hb); clear HO_7; clear HO_8; clear HB; have HO_7 := n0_; have HO_8 := n1_; have HO307 := n2_; have HB := n3_; clear n0_ n1_ n2_ n3_; (try clear hb); (try clear hb2); (try clear hk); (try clear hi); (try clear ho0))); try go_wp2_with (first | (go_at_call 19; (with_reducible refine (frame_Append.calls k1 _ _ x7_1 _ _ (rd_L3 l0 x27_1) t304 t305 _ ?side1 ?side2 ?side3 ?side4 A13.out).mono ?_); (case side1 => repeat (first | exact (Kd.R_reads' HO_7.out).2.2 | (with_reducible refine Kd.C_alloc ?_ _) | (with_reducible refine Kd.C_drewN ?_ _) | (with_reducible refine Kd.C_drew ?_))); (case side2 => exact (Kd.R_reads' HO_7.out).2.1); (case side3 => repeat (first | exact (Kd.C_below HR303_0.out HB.out) | (with_reducible refine Kd.C_alloc ?_ _) | (with_reducible refine Kd.C_drewN ?_ _) | (with_reducible refine Kd.C_drew ?_))); (case side4 => exact HC303_0.out); rintro e w21 ⟨v306, rfl, ho0, hb⟩; have n0_ := Aside0.mk (Kd.R_elder' (by (with_reducible repeat (first | apply Kd.R_alloc | apply Kd.R_drewN | apply Kd.R_drew)); exact HO_7.out) (Kd.R_base ho0) hb); have n1_ := Aside0.mk (Kd.R_below (by (with_reducible repeat (first | apply Kd.R_alloc | apply Kd.R_drewN | apply Kd.R_drew)); exact HO_8.out) hb); have n2_ := Aside0.mk (Kd.R_lower (Kd.R_new' ho0 (Kd.R_lt (by (with_reducible repeat (first | apply Kd.R_alloc | apply Kd.R_drewN | apply Kd.R_drew)); exact HO_7.out))) (below_size (by repeat (first | (with_reducible first | exact HB.out | apply below_alloc | apply pw_below_drewN | apply below_drew1) | exact HB.out)))); have n3_ := Aside0.mk (below_step (by repeat (first | (with_reducible first | exact HB.out | apply below_alloc | apply pw_below_drewN | apply below_drew1) | exact HB.out)) hb); clear HO_7; clear HO_8; clear HB; have HO_7 := n0_; have HO_8 := n1_; have HO307 := n2_; have HB := n3_; clear n0_ n1_ n2_ n3_; (try clear hb); (try clear hb2); (try clear hk); (try clear hi); (try clear ho0))))
                    go_ret
                    exact ⟨by first | rfl | (simp [errW_none, errW_some] <;> rfl) | (simp [*, errW_none, errW_some] <;> rfl), by repeat (first | (with_reducible first | exact HB.out | apply below_alloc | apply pw_below_drewN | apply below_drew1) | exact HB.out)⟩
              · rw [if_neg c11] at H
                exact absurd H (by simp)
            · rw [if_neg c10] at H
              exact absurd H (by simp)
          · rw [if_neg c9] at H
            have c9b0 : decide (x27_1 < (l0.length : Int)) = false := decide_eq_false c9
            clear c9
            have HC22 := Aside0.mk H
            clear H
            go_upto_region 18 with (fail)
            repeat (go_quiet (fail); go_upto_region 18 with (fail))
            go_cut [56] (fun v56 wc => ∃ (kq : Nat) (x56_21 : Bool), v56 = .bool x56_21 ∧ Aside0 (contralaw05_FrameTorn.j1 kq l0 a1 a2 x7_1 x8_1 x56_21 = some r) ∧ Aside0 (kq ≤ k1) ∧ Aside0 (Kd.R (Kd.int .u8) 5 wc w.heap.size (fun _ => True) u7 x7_1) ∧ Aside0 (Kd.R (Kd.int .i64) 3 wc w.heap.size (fun _ => True) u8 x8_1) ∧ Aside0 (Below w.heap.size w wc))
            case first =>
              have H := HC22.out
              clear HC22
              by_cases c23 : a1 < 0
              · rw [if_pos c23] at H
                have c23b0 : decide (a1 < 0) = true := decide_eq_true c23
                clear c23
                (first | rw [c23b0] | (simp only [i64_w, i32_w]; rw [c23b0]) | skip)
                have H' := Aside0.mk H
                clear H
                go_wp2
                repeat (go_quiet (fail); try go_wp2)
                go_meet
                case rel => exact ⟨_, (true), (by first | rfl | (simp; done) | (simp [*]; done)), H', ⟨by have := HK1.out; first | omega | exact Nat.le_refl _⟩, ⟨by (with_reducible repeat (first | apply Kd.R_alloc | apply Kd.R_drewN | apply Kd.R_drew)); exact HO_7.out⟩, ⟨by (with_reducible repeat (first | apply Kd.R_alloc | apply Kd.R_drewN | apply Kd.R_drew)); exact HO_8.out⟩, ⟨by repeat (first | (with_reducible first | exact HB.out | apply below_alloc | apply pw_below_drewN | apply below_drew1) | exact HB.out)⟩⟩
              · rw [if_neg c23] at H
                have c23b0 : decide (a1 < 0) = false := decide_eq_false c23
                clear c23
                (first | rw [c23b0] | (simp only [i64_w, i32_w]; rw [c23b0]) | skip)
                have H' := Aside0.mk H
                clear H
                obtain ⟨Ao24, co24, eo24⟩ := Kd.R_slice HO_7.out
                subst eo24
                go_wp2
                repeat (go_quiet (fail); try go_wp2)
                go_meet
                case rel => exact ⟨_, (decide (a1 > (x7_1.length : Int))), (by first | rfl | (simp; done) | (simp [*]; done)), H', ⟨by have := HK1.out; first | omega | exact Nat.le_refl _⟩, ⟨by (with_reducible repeat (first | apply Kd.R_alloc | apply Kd.R_drewN | apply Kd.R_drew)); exact HO_7.out⟩, ⟨by (with_reducible repeat (first | apply Kd.R_alloc | apply Kd.R_drewN | apply Kd.R_drew)); exact HO_8.out⟩, ⟨by repeat (first | (with_reducible first | exact HB.out | apply below_alloc | apply pw_below_drewN | apply below_drew1) | exact HB.out)⟩⟩
            case rest =>
              clear HC22
              try clear c1
              try clear c2
              try clear p2
              try clear c3
              try clear p3
              try clear q3
              try clear hx3
              try clear c5
              try clear c6
              try clear c6b0
              try clear c6b1
              try clear p6
              try clear c9
              try clear c9b0
              try clear c10
              try clear c10b0
              try clear c11
              try clear c11b0
              try clear c12
              try clear c12b0
              try clear c12b1
              try clear c14
              try clear c14b0
              try clear c14b1
              try clear c15
              try clear c23
              try clear c23b0
              try clear hx303_0
              try clear p2
              try clear p303
              try clear q303
              obtain ⟨kq, x56_21, rfl, HA, HJ21, HO_7, HO_8, HB⟩ := hcut
              cases kq with
              | zero => exact absurd HA.out (by simp [contralaw05_FrameTorn.j1])
              | succ kj21 =>
                have H := HA.out
                clear HA
                simp only [contralaw05_FrameTorn.j1] at H
                by_cases c25 : x56_21 = true
                · subst c25
                  have H1 : (some true) = some r := by rw [if_pos rfl] at H; exact H
                  clear H
                  have H := H1
                  clear H1
                  obtain rfl := Option.some.inj H
                  go_wp2
                  repeat (go_quiet (fail); try go_wp2)
                  go_ret
                  exact ⟨by first | rfl | (simp [errW_none, errW_some] <;> rfl) | (simp [*, errW_none, errW_some] <;> rfl), by repeat (first | (with_reducible first | exact HB.out | apply below_alloc | apply pw_below_drewN | apply below_drew1) | exact HB.out)⟩
                · replace c25 := Bool.eq_false_iff.mpr c25
                  subst c25
                  have H1 : ((some (([] : List Int) : List Int)).bind fun y311 => (if 0 ≤ a1 then (if a1 ≤ (x7_1.length : Int) then ((some (x7_1.take (a1 : Int).toNat : List Int)).bind fun y314 => (if y311.length + y314.length < 140737488355328 then ((some (y311 ++ y314 : List Int)).bind fun y318 => (if a1 > 0 then (if 0 ≤ (wrap64 (a1 - 1)) then (if (wrap64 (a1 - 1)) < (y318.length : Int) then (contralaw05_FrameTorn.j2 kj21 l0 a1 a2 x8_1 (y318.set ((wrap64 (a1 - 1)) : Int).toNat (Go.bits .xor .u8 (rd y318 (wrap64 (a1 - 1))) a2))) else (none)) else (none)) else (contralaw05_FrameTorn.j2 kj21 l0 a1 a2 x8_1 y318))) else (none))) else (none)) else (none))) = some r := by rw [if_neg (show ¬ (false = true) by decide)] at H; exact H
                  clear H
                  have H := H1
                  clear H1
                  obtain ⟨y311, hy311⟩ : ∃ y_ : List Int, y_ = (([] : List Int)) := ⟨_, rfl⟩
                  replace H : (if 0 ≤ a1 then (if a1 ≤ (x7_1.length : Int) then ((some (x7_1.take (a1 : Int).toNat : List Int)).bind fun y314 => (if y311.length + y314.length < 140737488355328 then ((some (y311 ++ y314 : List Int)).bind fun y318 => (if a1 > 0 then (if 0 ≤ (wrap64 (a1 - 1)) then (if (wrap64 (a1 - 1)) < (y318.length : Int) then (contralaw05_FrameTorn.j2 kj21 l0 a1 a2 x8_1 (y318.set ((wrap64 (a1 - 1)) : Int).toNat (Go.bits .xor .u8 (rd y318 (wrap64 (a1 - 1))) a2))) else (none)) else (none)) else (contralaw05_FrameTorn.j2 kj21 l0 a1 a2 x8_1 y318))) else (none))) else (none)) else (none)) = some r := by first | (rw [hy311]; with_reducible exact H) | (have H2_ := (Option.bind_some _ _).symm.trans H; rw [hy311]; with_reducible exact H2_) | (have H2_ := (Option.bind_some _ _).symm.trans H; with_reducible exact H2_) | with_reducible exact H | (rw [hy311]; exact H) | exact H
                  have Ny311 := Aside0.mk hy311
                  clear hy311
                  by_cases c26 : 0 ≤ a1
                  · rw [if_pos c26] at H
                    have c26b0 := eq_true c26
                    have c26b1 : decide (0 ≤ a1) = true := decide_eq_true c26
                    clear c26
                    by_cases c27 : a1 ≤ (x7_1.length : Int)
                    · rw [if_pos c27] at H
                      have c27b0 := eq_true c27
                      have c27b1 : decide (a1 ≤ (x7_1.length : Int)) = true := decide_eq_true c27
                      clear c27
                      obtain ⟨y314, hy314⟩ : ∃ y_ : List Int, y_ = (x7_1.take (a1 : Int).toNat) := ⟨_, rfl⟩
                      replace H : (if y311.length + y314.length < 140737488355328 then ((some (y311 ++ y314 : List Int)).bind fun y318 => (if a1 > 0 then (if 0 ≤ (wrap64 (a1 - 1)) then (if (wrap64 (a1 - 1)) < (y318.length : Int) then (contralaw05_FrameTorn.j2 kj21 l0 a1 a2 x8_1 (y318.set ((wrap64 (a1 - 1)) : Int).toNat (Go.bits .xor .u8 (rd y318 (wrap64 (a1 - 1))) a2))) else (none)) else (none)) else (contralaw05_FrameTorn.j2 kj21 l0 a1 a2 x8_1 y318))) else (none)) = some r := by first | (rw [hy314]; with_reducible exact H) | (have H2_ := (Option.bind_some _ _).symm.trans H; rw [hy314]; with_reducible exact H2_) | (have H2_ := (Option.bind_some _ _).symm.trans H; with_reducible exact H2_) | with_reducible exact H | (rw [hy314]; exact H) | exact H
                      have Ny314 := Aside0.mk hy314
                      clear hy314
                      by_cases c28 : y311.length + y314.length < 140737488355328
                      · rw [if_pos c28] at H
                        have LMc28 := Aside0.mk c28
                        clear c28
                        obtain ⟨y318, hy318⟩ : ∃ y_ : List Int, y_ = (y311 ++ y314) := ⟨_, rfl⟩
                        replace H : (if a1 > 0 then (if 0 ≤ (wrap64 (a1 - 1)) then (if (wrap64 (a1 - 1)) < (y318.length : Int) then (contralaw05_FrameTorn.j2 kj21 l0 a1 a2 x8_1 (y318.set ((wrap64 (a1 - 1)) : Int).toNat (Go.bits .xor .u8 (rd y318 (wrap64 (a1 - 1))) a2))) else (none)) else (none)) else (contralaw05_FrameTorn.j2 kj21 l0 a1 a2 x8_1 y318)) = some r := by first | (rw [hy318]; with_reducible exact H) | (have H2_ := (Option.bind_some _ _).symm.trans H; rw [hy318]; with_reducible exact H2_) | (have H2_ := (Option.bind_some _ _).symm.trans H; with_reducible exact H2_) | with_reducible exact H | (rw [hy318]; exact H) | exact H
                        have Ny318 := Aside0.mk hy318
                        clear hy318
                        have HC29 := Aside0.mk H
                        clear H
                        go_upto_if 63 with (first | ((with_reducible refine gate_dst (N := 57) rfl ?_); (try (refine gate_guard (by rfl) ?_; dsimp only)); refine Kd.R_lit (Kd.int .u8) _ 5 ?hg (N := 57) ?hd (xs := ([] : List Int)) (inner := []) (ok := fun _ => True) (okp := fun _ => True) ?hr ?hp (fun _ hk => hk) trivial (Below.refl _ _) (Nat.le_refl _) (by simp) ?_; (case hd => rfl); (case hg => rfl); (case hr => first | (go_simp; done) | (go_simp; rfl)); (case hp => exact (Reps.none _ _)); intro v312 w30 ho31 hb hg_ hnew_; clear hg_ hnew_; (first | rw [← Ny311.out] at ho31 | (simp only [Int.reduceToNat] at ho31; rw [← Ny311.out] at ho31)); have n0_ := Aside0.mk (Kd.R_elder' (by (with_reducible repeat (first | apply Kd.R_alloc | apply Kd.R_drewN | apply Kd.R_drew)); exact HO_7.out) (Kd.R_base ho31) hb); have n1_ := Aside0.mk (Kd.R_below (by (with_reducible repeat (first | apply Kd.R_alloc | apply Kd.R_drewN | apply Kd.R_drew)); exact HO_8.out) hb); have n2_ := Aside0.mk (Kd.R_lower (Kd.R_new' ho31 (Kd.R_lt (by (with_reducible repeat (first | apply Kd.R_alloc | apply Kd.R_drewN | apply Kd.R_drew)); exact HO_7.out))) (below_size (by repeat (first | (with_reducible first | exact HB.out | apply below_alloc | apply pw_below_drewN | apply below_drew1) | exact HB.out)))); have n3_ := Aside0.mk (below_step (by repeat (first | (with_reducible first | exact HB.out | apply below_alloc | apply pw_below_drewN | apply below_drew1) | exact HB.out)) hb); clear HO_7; clear HO_8; clear HB; have HO_7 := n0_; have HO_8 := n1_; have HO313 := n2_; have HB := n3_; clear n0_ n1_ n2_ n3_; clear hb ho31; obtain ⟨Ao33, co33, eo33⟩ := Kd.R_slice HO_7.out; subst eo33; have q32 : (a1 : Int) ≤ ((x7_1.length : Int) : Int) := of_decide_eq_true (by first | (with_reducible assumption) | assumption); obtain ⟨i032, hi032, _, hsz32, _⟩ := info_parts info5; have hroom32 : x7_1.length ≤ co33 := (Kd.R_reads' HO_7.out).2.1; have hC32 : Kd.C (Kd.int .u8) _ Ao33 x7_1.length x7_1 := (Kd.R_reads' HO_7.out).2.2; have hcut32 := cut_to (P := Try.prog) 22 5 .i64 Try.underlying22 hi032 Ao33 x7_1.length co33 a1 (of_decide_eq_true (by first | (with_reducible assumption) | assumption)) q32 hroom32; have hr32 := Kd.C_take (m := (a1 : Int).toNat) hC32 (by omega); have hy32 : y314.length = (a1 : Int).toNat := (by rw [Ny314.out, List.length_take]; omega); rw [← Ny314.out] at hr32; rw [← hy32] at hcut32; have HR317 := Aside0.mk hr32; have HC317 := Aside0.mk (show y314.length ≤ co33 from by omega); clear hr32 hC32 hroom32 hi032 hsz32; have KY32 := Aside0.mk hy32; clear hy32; have KL32 := Aside0.mk (show (a1 : Int).toNat ≤ x7_1.length from by omega); replace q32 := eq_true q32) | ((with_reducible refine gate_builtin (b := .append) (xs := #[.tmp 57, .tmp 60]) rfl ?_); (try (refine gate_guard (by rfl) ?_; dsimp only)); at_builtin; refine Kd.R_append_rows (Kd.int .u8) (w0 := w) w.heap.size rfl (.tmp 57) (.tmp 60) 22 5 (.int .u8 0) 1 rfl Try.underlying22 info5 rfl (by decide) (by omega) v312 y311 y314 _ _ _ (fun k_ => some k_ ≠ (.slice Ao33 x7_1.length co33 : Value).ownBlock) (fun _ => False) rfl rfl ?aO ?aR (fun _ _ h => h) (fun _ h => h.elim) ?aF ?aB ?aS ?aL ?_; (case aR => repeat (first | exact (by repeat (first | (with_reducible exact HR317.out) | (with_reducible refine Kd.C_alloc ?_ _) | (with_reducible refine Kd.C_drewN ?_ _) | (with_reducible refine Kd.C_drew ?_) | exact HR317.out)) | (with_reducible refine Kd.C_alloc ?_ _) | (with_reducible refine Kd.C_drewN ?_ _) | (with_reducible refine Kd.C_drew ?_))); (case aB => exact (by repeat (first | (with_reducible first | exact HB.out | apply below_alloc | apply pw_below_drewN | apply below_drew1) | exact HB.out))); (case aF => exact (fun k_ hk => Kd.fresh' (Kd.R_lt (by (with_reducible repeat (first | apply Kd.R_alloc | apply Kd.R_drewN | apply Kd.R_drew)); exact HO_7.out)) k_ hk)); (case aO => exact (by (with_reducible repeat (first | apply Kd.R_alloc | apply Kd.R_drewN | apply Kd.R_drew)); exact Kd.R_mono HO313.out (fun _ hk => hk.2))); (case aS => exact (below_size (by repeat (first | (with_reducible first | exact HB.out | apply below_alloc | apply pw_below_drewN | apply below_drew1) | exact HB.out)))); (case aL => have := LMc28.out; omega); intro v319 w34 ho hb hg hat; rw [← Ny318.out] at ho; have n0_ := Aside0.mk (Kd.R_after (ok := (fun _ => True)) (by (with_reducible repeat (first | apply Kd.R_alloc | apply Kd.R_drewN | apply Kd.R_drew)); exact HO_7.out) hg hat); have n1_ := Aside0.mk (Kd.R_over' (by (with_reducible repeat (first | apply Kd.R_alloc | apply Kd.R_drewN | apply Kd.R_drew)); exact HO_8.out) (Kd.R_typed (by (with_reducible repeat (first | apply Kd.R_alloc | apply Kd.R_drewN | apply Kd.R_drew)); exact HO313.out)) (by decide) hg); have n2_ := Aside0.mk (hb); have n3_ := Aside0.mk ((show Kd.C (Kd.int .u8) w34 Ao33 y314.length y314 from by rw [Ny314.out]; exact Kd.C_take (m := (a1 : Int).toNat) ((Kd.R_reads' (Kd.R_after (ok := (fun _ => True)) (by (with_reducible repeat (first | apply Kd.R_alloc | apply Kd.R_drewN | apply Kd.R_drew)); exact HO_7.out) hg hat)).2.2) KL32.out)); have n4_ := Aside0.mk (ho); clear HO_7; clear HO_8; clear HB; clear HR317; clear HO313; have HO_7 := n0_; have HO_8 := n1_; have HB := n2_; have HR317 := n3_; have HO320 := n4_; clear n0_ n1_ n2_ n3_ n4_; clear ho hb hg hat))
                        repeat (go_quiet (first | ((with_reducible refine gate_dst (N := 57) rfl ?_); (try (refine gate_guard (by rfl) ?_; dsimp only)); refine Kd.R_lit (Kd.int .u8) _ 5 ?hg (N := 57) ?hd (xs := ([] : List Int)) (inner := []) (ok := fun _ => True) (okp := fun _ => True) ?hr ?hp (fun _ hk => hk) trivial (Below.refl _ _) (Nat.le_refl _) (by simp) ?_; (case hd => rfl); (case hg => rfl); (case hr => first | (go_simp; done) | (go_simp; rfl)); (case hp => exact (Reps.none _ _)); intro v312 w30 ho31 hb hg_ hnew_; clear hg_ hnew_; (first | rw [← Ny311.out] at ho31 | (simp only [Int.reduceToNat] at ho31; rw [← Ny311.out] at ho31)); have n0_ := Aside0.mk (Kd.R_elder' (by (with_reducible repeat (first | apply Kd.R_alloc | apply Kd.R_drewN | apply Kd.R_drew)); exact HO_7.out) (Kd.R_base ho31) hb); have n1_ := Aside0.mk (Kd.R_below (by (with_reducible repeat (first | apply Kd.R_alloc | apply Kd.R_drewN | apply Kd.R_drew)); exact HO_8.out) hb); have n2_ := Aside0.mk (Kd.R_lower (Kd.R_new' ho31 (Kd.R_lt (by (with_reducible repeat (first | apply Kd.R_alloc | apply Kd.R_drewN | apply Kd.R_drew)); exact HO_7.out))) (below_size (by repeat (first | (with_reducible first | exact HB.out | apply below_alloc | apply pw_below_drewN | apply below_drew1) | exact HB.out)))); have n3_ := Aside0.mk (below_step (by repeat (first | (with_reducible first | exact HB.out | apply below_alloc | apply pw_below_drewN | apply below_drew1) | exact HB.out)) hb); clear HO_7; clear HO_8; clear HB; have HO_7 := n0_; have HO_8 := n1_; have HO313 := n2_; have HB := n3_; clear n0_ n1_ n2_ n3_; clear hb ho31; obtain ⟨Ao33, co33, eo33⟩ := Kd.R_slice HO_7.out; subst eo33; have q32 : (a1 : Int) ≤ ((x7_1.length : Int) : Int) := of_decide_eq_true (by first | (with_reducible assumption) | assumption); obtain ⟨i032, hi032, _, hsz32, _⟩ := info_parts info5; have hroom32 : x7_1.length ≤ co33 := (Kd.R_reads' HO_7.out).2.1; have hC32 : Kd.C (Kd.int .u8) _ Ao33 x7_1.length x7_1 := (Kd.R_reads' HO_7.out).2.2; have hcut32 := cut_to (P := Try.prog) 22 5 .i64 Try.underlying22 hi032 Ao33 x7_1.length co33 a1 (of_decide_eq_true (by first | (with_reducible assumption) | assumption)) q32 hroom32; have hr32 := Kd.C_take (m := (a1 : Int).toNat) hC32 (by omega); have hy32 : y314.length = (a1 : Int).toNat := (by rw [Ny314.out, List.length_take]; omega); rw [← Ny314.out] at hr32; rw [← hy32] at hcut32; have HR317 := Aside0.mk hr32; have HC317 := Aside0.mk (show y314.length ≤ co33 from by omega); clear hr32 hC32 hroom32 hi032 hsz32; have KY32 := Aside0.mk hy32; clear hy32; have KL32 := Aside0.mk (show (a1 : Int).toNat ≤ x7_1.length from by omega); replace q32 := eq_true q32) | ((with_reducible refine gate_builtin (b := .append) (xs := #[.tmp 57, .tmp 60]) rfl ?_); (try (refine gate_guard (by rfl) ?_; dsimp only)); at_builtin; refine Kd.R_append_rows (Kd.int .u8) (w0 := w) w.heap.size rfl (.tmp 57) (.tmp 60) 22 5 (.int .u8 0) 1 rfl Try.underlying22 info5 rfl (by decide) (by omega) v312 y311 y314 _ _ _ (fun k_ => some k_ ≠ (.slice Ao33 x7_1.length co33 : Value).ownBlock) (fun _ => False) rfl rfl ?aO ?aR (fun _ _ h => h) (fun _ h => h.elim) ?aF ?aB ?aS ?aL ?_; (case aR => repeat (first | exact (by repeat (first | (with_reducible exact HR317.out) | (with_reducible refine Kd.C_alloc ?_ _) | (with_reducible refine Kd.C_drewN ?_ _) | (with_reducible refine Kd.C_drew ?_) | exact HR317.out)) | (with_reducible refine Kd.C_alloc ?_ _) | (with_reducible refine Kd.C_drewN ?_ _) | (with_reducible refine Kd.C_drew ?_))); (case aB => exact (by repeat (first | (with_reducible first | exact HB.out | apply below_alloc | apply pw_below_drewN | apply below_drew1) | exact HB.out))); (case aF => exact (fun k_ hk => Kd.fresh' (Kd.R_lt (by (with_reducible repeat (first | apply Kd.R_alloc | apply Kd.R_drewN | apply Kd.R_drew)); exact HO_7.out)) k_ hk)); (case aO => exact (by (with_reducible repeat (first | apply Kd.R_alloc | apply Kd.R_drewN | apply Kd.R_drew)); exact Kd.R_mono HO313.out (fun _ hk => hk.2))); (case aS => exact (below_size (by repeat (first | (with_reducible first | exact HB.out | apply below_alloc | apply pw_below_drewN | apply below_drew1) | exact HB.out)))); (case aL => have := LMc28.out; omega); intro v319 w34 ho hb hg hat; rw [← Ny318.out] at ho; have n0_ := Aside0.mk (Kd.R_after (ok := (fun _ => True)) (by (with_reducible repeat (first | apply Kd.R_alloc | apply Kd.R_drewN | apply Kd.R_drew)); exact HO_7.out) hg hat); have n1_ := Aside0.mk (Kd.R_over' (by (with_reducible repeat (first | apply Kd.R_alloc | apply Kd.R_drewN | apply Kd.R_drew)); exact HO_8.out) (Kd.R_typed (by (with_reducible repeat (first | apply Kd.R_alloc | apply Kd.R_drewN | apply Kd.R_drew)); exact HO313.out)) (by decide) hg); have n2_ := Aside0.mk (hb); have n3_ := Aside0.mk ((show Kd.C (Kd.int .u8) w34 Ao33 y314.length y314 from by rw [Ny314.out]; exact Kd.C_take (m := (a1 : Int).toNat) ((Kd.R_reads' (Kd.R_after (ok := (fun _ => True)) (by (with_reducible repeat (first | apply Kd.R_alloc | apply Kd.R_drewN | apply Kd.R_drew)); exact HO_7.out) hg hat)).2.2) KL32.out)); have n4_ := Aside0.mk (ho); clear HO_7; clear HO_8; clear HB; clear HR317; clear HO313; have HO_7 := n0_; have HO_8 := n1_; have HB := n2_; have HR317 := n3_; have HO320 := n4_; clear n0_ n1_ n2_ n3_ n4_; clear ho hb hg hat)); go_upto_if 63 with (first | ((with_reducible refine gate_dst (N := 57) rfl ?_); (try (refine gate_guard (by rfl) ?_; dsimp only)); refine Kd.R_lit (Kd.int .u8) _ 5 ?hg (N := 57) ?hd (xs := ([] : List Int)) (inner := []) (ok := fun _ => True) (okp := fun _ => True) ?hr ?hp (fun _ hk => hk) trivial (Below.refl _ _) (Nat.le_refl _) (by simp) ?_; (case hd => rfl); (case hg => rfl); (case hr => first | (go_simp; done) | (go_simp; rfl)); (case hp => exact (Reps.none _ _)); intro v312 w30 ho31 hb hg_ hnew_; clear hg_ hnew_; (first | rw [← Ny311.out] at ho31 | (simp only [Int.reduceToNat] at ho31; rw [← Ny311.out] at ho31)); have n0_ := Aside0.mk (Kd.R_elder' (by (with_reducible repeat (first | apply Kd.R_alloc | apply Kd.R_drewN | apply Kd.R_drew)); exact HO_7.out) (Kd.R_base ho31) hb); have n1_ := Aside0.mk (Kd.R_below (by (with_reducible repeat (first | apply Kd.R_alloc | apply Kd.R_drewN | apply Kd.R_drew)); exact HO_8.out) hb); have n2_ := Aside0.mk (Kd.R_lower (Kd.R_new' ho31 (Kd.R_lt (by (with_reducible repeat (first | apply Kd.R_alloc | apply Kd.R_drewN | apply Kd.R_drew)); exact HO_7.out))) (below_size (by repeat (first | (with_reducible first | exact HB.out | apply below_alloc | apply pw_below_drewN | apply below_drew1) | exact HB.out)))); have n3_ := Aside0.mk (below_step (by repeat (first | (with_reducible first | exact HB.out | apply below_alloc | apply pw_below_drewN | apply below_drew1) | exact HB.out)) hb); clear HO_7; clear HO_8; clear HB; have HO_7 := n0_; have HO_8 := n1_; have HO313 := n2_; have HB := n3_; clear n0_ n1_ n2_ n3_; clear hb ho31; obtain ⟨Ao33, co33, eo33⟩ := Kd.R_slice HO_7.out; subst eo33; have q32 : (a1 : Int) ≤ ((x7_1.length : Int) : Int) := of_decide_eq_true (by first | (with_reducible assumption) | assumption); obtain ⟨i032, hi032, _, hsz32, _⟩ := info_parts info5; have hroom32 : x7_1.length ≤ co33 := (Kd.R_reads' HO_7.out).2.1; have hC32 : Kd.C (Kd.int .u8) _ Ao33 x7_1.length x7_1 := (Kd.R_reads' HO_7.out).2.2; have hcut32 := cut_to (P := Try.prog) 22 5 .i64 Try.underlying22 hi032 Ao33 x7_1.length co33 a1 (of_decide_eq_true (by first | (with_reducible assumption) | assumption)) q32 hroom32; have hr32 := Kd.C_take (m := (a1 : Int).toNat) hC32 (by omega); have hy32 : y314.length = (a1 : Int).toNat := (by rw [Ny314.out, List.length_take]; omega); rw [← Ny314.out] at hr32; rw [← hy32] at hcut32; have HR317 := Aside0.mk hr32; have HC317 := Aside0.mk (show y314.length ≤ co33 from by omega); clear hr32 hC32 hroom32 hi032 hsz32; have KY32 := Aside0.mk hy32; clear hy32; have KL32 := Aside0.mk (show (a1 : Int).toNat ≤ x7_1.length from by omega); replace q32 := eq_true q32) | ((with_reducible refine gate_builtin (b := .append) (xs := #[.tmp 57, .tmp 60]) rfl ?_); (try (refine gate_guard (by rfl) ?_; dsimp only)); at_builtin; refine Kd.R_append_rows (Kd.int .u8) (w0 := w) w.heap.size rfl (.tmp 57) (.tmp 60) 22 5 (.int .u8 0) 1 rfl Try.underlying22 info5 rfl (by decide) (by omega) v312 y311 y314 _ _ _ (fun k_ => some k_ ≠ (.slice Ao33 x7_1.length co33 : Value).ownBlock) (fun _ => False) rfl rfl ?aO ?aR (fun _ _ h => h) (fun _ h => h.elim) ?aF ?aB ?aS ?aL ?_; (case aR => repeat (first | exact (by repeat (first | (with_reducible exact HR317.out) | (with_reducible refine Kd.C_alloc ?_ _) | (with_reducible refine Kd.C_drewN ?_ _) | (with_reducible refine Kd.C_drew ?_) | exact HR317.out)) | (with_reducible refine Kd.C_alloc ?_ _) | (with_reducible refine Kd.C_drewN ?_ _) | (with_reducible refine Kd.C_drew ?_))); (case aB => exact (by repeat (first | (with_reducible first | exact HB.out | apply below_alloc | apply pw_below_drewN | apply below_drew1) | exact HB.out))); (case aF => exact (fun k_ hk => Kd.fresh' (Kd.R_lt (by (with_reducible repeat (first | apply Kd.R_alloc | apply Kd.R_drewN | apply Kd.R_drew)); exact HO_7.out)) k_ hk)); (case aO => exact (by (with_reducible repeat (first | apply Kd.R_alloc | apply Kd.R_drewN | apply Kd.R_drew)); exact Kd.R_mono HO313.out (fun _ hk => hk.2))); (case aS => exact (below_size (by repeat (first | (with_reducible first | exact HB.out | apply below_alloc | apply pw_below_drewN | apply below_drew1) | exact HB.out)))); (case aL => have := LMc28.out; omega); intro v319 w34 ho hb hg hat; rw [← Ny318.out] at ho; have n0_ := Aside0.mk (Kd.R_after (ok := (fun _ => True)) (by (with_reducible repeat (first | apply Kd.R_alloc | apply Kd.R_drewN | apply Kd.R_drew)); exact HO_7.out) hg hat); have n1_ := Aside0.mk (Kd.R_over' (by (with_reducible repeat (first | apply Kd.R_alloc | apply Kd.R_drewN | apply Kd.R_drew)); exact HO_8.out) (Kd.R_typed (by (with_reducible repeat (first | apply Kd.R_alloc | apply Kd.R_drewN | apply Kd.R_drew)); exact HO313.out)) (by decide) hg); have n2_ := Aside0.mk (hb); have n3_ := Aside0.mk ((show Kd.C (Kd.int .u8) w34 Ao33 y314.length y314 from by rw [Ny314.out]; exact Kd.C_take (m := (a1 : Int).toNat) ((Kd.R_reads' (Kd.R_after (ok := (fun _ => True)) (by (with_reducible repeat (first | apply Kd.R_alloc | apply Kd.R_drewN | apply Kd.R_drew)); exact HO_7.out) hg hat)).2.2) KL32.out)); have n4_ := Aside0.mk (ho); clear HO_7; clear HO_8; clear HB; clear HR317; clear HO313; have HO_7 := n0_; have HO_8 := n1_; have HB := n2_; have HR317 := n3_; have HO320 := n4_; clear n0_ n1_ n2_ n3_ n4_; clear ho hb hg hat)))
                        (try simp only [Act.put, List.setIfInBounds_toArray, List.set_cons_zero, List.set_cons_succ])
                        go_cut [] (fun wc => ∃ (kq : Nat) (x13_28 : List Int), Aside0 (contralaw05_FrameTorn.j2 kq l0 a1 a2 x8_1 x13_28 = some r) ∧ Aside0 (kq ≤ kj21) ∧ Aside0 (Kd.R (Kd.int .i64) 3 wc w.heap.size (fun _ => True) u8 x8_1) ∧ Aside0 (Kd.R (Kd.int .u8) 5 wc w.heap.size (fun _ => True) v319 x13_28) ∧ Aside0 (Kd.C (Kd.int .u8) wc Ao33 y314.length y314) ∧ Aside0 (Below w.heap.size w wc))
                        case first =>
                          have H := HC29.out
                          clear HC29
                          by_cases c35 : a1 > 0
                          · rw [if_pos c35] at H
                            have c35b0 : decide (0 < a1) = true := decide_eq_true c35
                            clear c35
                            (first | rw [c35b0] | (simp only [i64_w, i32_w]; rw [c35b0]) | skip)
                            obtain ⟨ji36, hji36⟩ : ∃ j_ : Int, (wrap64 (a1 - 1)) = j_ := ⟨_, rfl⟩
                            replace H : (if 0 ≤ (ji36) then (if (ji36) < (y318.length : Int) then (contralaw05_FrameTorn.j2 kj21 l0 a1 a2 x8_1 (y318.set ((ji36) : Int).toNat (Go.bits .xor .u8 (rd y318 (ji36)) a2))) else (none)) else (none)) = some r := by first | (rw [hji36] at H; exact H) | (simp only [hji36] at H ⊢; exact H)
                            have hji36w : (IntKind.i64.wrap (a1 - 1)) = ji36 := (i64_w _).trans hji36
                            by_cases c37 : 0 ≤ (ji36)
                            · rw [if_pos c37] at H
                              have c37b0 : decide (0 ≤ (ji36)) = true := decide_eq_true c37
                              clear c37
                              by_cases c38 : (ji36) < (y318.length : Int)
                              · rw [if_pos c38] at H
                                have c38b0 : decide ((ji36) < (y318.length : Int)) = true := decide_eq_true c38
                                clear c38
                                obtain ⟨y322, hy322⟩ : ∃ y_ : List Int, y_ = (y318.set ((ji36) : Int).toNat (Go.bits .xor .u8 (rd y318 (ji36)) a2)) := ⟨_, rfl⟩
                                replace H : (contralaw05_FrameTorn.j2 kj21 l0 a1 a2 x8_1 y322) = some r := by first | (rw [hy322]; with_reducible exact H) | (have H2_ := (Option.bind_some _ _).symm.trans H; rw [hy322]; with_reducible exact H2_) | (have H2_ := (Option.bind_some _ _).symm.trans H; with_reducible exact H2_) | with_reducible exact H | (rw [hy322]; exact H) | exact H
                                have Ny322 := Aside0.mk hy322
                                clear hy322
                                have H' := Aside0.mk H
                                clear H
                                obtain ⟨Ao40, co40, eo40⟩ := Kd.R_slice HO320.out
                                subst eo40
                                have p321 : 0 ≤ ((ji36) : Int) := of_decide_eq_true (by first | (with_reducible assumption) | assumption)
                                have q321 : (ji36) < (y318.length : Int) := of_decide_eq_true (by first | (with_reducible assumption) | assumption)
                                obtain ⟨ad321, e321, hx321_0⟩ := Kd.at_int (Kd.R_reads' HO320.out).2.2 (ji36) p321 q321
                                cases e321
                                replace p321 := eq_true p321
                                replace q321 := eq_true q321
                                have p39 : 0 ≤ ((ji36) : Int) := of_decide_eq_true (by first | (with_reducible assumption) | assumption)
                                have q39 : ((ji36) : Int) < ((y318.length : Int) : Int) := of_decide_eq_true (by first | (with_reducible assumption) | assumption)
                                obtain ⟨go39, co39, eo39, gb39, gl39, cl39, HG39⟩ := Kd.R_form HO320.out (by omega)
                                (first | cases eo39 | (injection eo39 with ea_ en_ ec_; (first | subst ea_ | (injection ea_ with ea_; subst ea_)); subst ec_; clear en_))
                                have GB39 := Aside0.mk gb39
                                have GG39 := Aside0.mk HG39
                                clear gb39 gl39 HG39
                                (first | simp only [add_plain] at hx321_0 | skip)
                                obtain ⟨hx39_0, hf39_0⟩ := Kd.R_celln 0 HO320.out ((ji36) : Int) p39 q39
                                replace p39 := eq_true p39
                                replace q39 := eq_true q39
                                have HP41 := Kd.R_putg HO320.out ((ji36) : Int) (Go.bits .xor .u8 (rd y318 (ji36)) a2)
                                go_wp2_with (first | ((with_reducible refine gate_store (t := 5) (p := 71) rfl ?_); (try (rw [drewN_self w34]; generalize hq_ : World.drewN w34 _ = w34; have n0_ := Aside0.mk (Kd.R_at hq_ HO_7.out); have n1_ := Aside0.mk (Kd.R_at hq_ HO_8.out); have n2_ := Aside0.mk (Kd.R_at hq_ HO320.out); have n3_ := Aside0.mk (Kd.C_at hq_ HR317.out); have n4_ := Aside0.mk (below_at hq_ HB.out); clear hq_ HO_7 HO_8 HO320 HR317 HB; have HO_7 := n0_; have HO_8 := n1_; have HO320 := n2_; have HR317 := n3_; have HB := n4_; clear n0_ n1_ n2_ n3_ n4_; (try (have HP41 := Kd.R_putg HO320.out ((ji36) : Int) (Go.bits .xor .u8 (rd y318 (ji36)) a2))))); refine store_event (t := 5) (p := 71) (v := ?vo_w42) (w1 := (w34.setCell ⟨go39, ((ji36) : Int).toNat, none⟩ (.int .u8 (Go.bits .xor .u8 (rd y318 (ji36)) a2)))) ?hg ?ho ?hn ?hr ?_; (case ho => rfl); (case hg => rfl); (case hn => rfl); (case hr => first | (go_simp; done) | (go_simp; rfl)); intro w42 hw; have hg : w34.grownBy w42 (some go39) := (by rw [hw]; exact HP41.2); have hp_ : Kd.R (Kd.int .u8) 5 w42 w.heap.size (fun k_ => some k_ ≠ (.slice Ao33 x7_1.length co33 : Value).ownBlock) (.slice (some ⟨go39, 0, none⟩) y318.length co40) y322 := (by rw [hw, Ny322.out]; exact HP41.1); clear HP41; have n0_ := Aside0.mk (Kd.R_after (v := (.slice (some ⟨go39, 0, none⟩) y318.length co40)) (v1 := (.slice (some ⟨go39, 0, none⟩) y318.length co40)) (ok := (fun _ => True)) (by (with_reducible repeat (first | apply Kd.R_alloc | apply Kd.R_drewN | apply Kd.R_drew)); exact HO_7.out) hg (.inl rfl)); have n1_ := Aside0.mk (Kd.R_over' (v := (.slice (some ⟨go39, 0, none⟩) y318.length co40)) (by (with_reducible repeat (first | apply Kd.R_alloc | apply Kd.R_drewN | apply Kd.R_drew)); exact HO_8.out) (Kd.R_typed HO320.out) (by decide) hg); have n2_ := Aside0.mk (hp_); have n3_ := Aside0.mk ((by rw [hw]; exact below_set (HB.out) GB39.out : Below w.heap.size w w42)); have n4_ := Aside0.mk ((show Kd.C (Kd.int .u8) w42 Ao33 y314.length y314 from by rw [Ny314.out]; exact Kd.C_take (m := (a1 : Int).toNat) ((Kd.R_reads' (Kd.R_after (v := (.slice (some ⟨go39, 0, none⟩) y318.length co40)) (v1 := (.slice (some ⟨go39, 0, none⟩) y318.length co40)) (ok := (fun _ => True)) (by (with_reducible repeat (first | apply Kd.R_alloc | apply Kd.R_drewN | apply Kd.R_drew)); exact HO_7.out) hg (.inl rfl))).2.2) KL32.out)); clear HO_7; clear HO_8; clear HO320; clear HB; clear HR317; have HO_7 := n0_; have HO_8 := n1_; have HO320 := n2_; have HB := n3_; have HR317 := n4_; clear n0_ n1_ n2_ n3_ n4_; clear hg hw hp_))
                                repeat (go_quiet (first | ((with_reducible refine gate_store (t := 5) (p := 71) rfl ?_); (try (rw [drewN_self w34]; generalize hq_ : World.drewN w34 _ = w34; have n0_ := Aside0.mk (Kd.R_at hq_ HO_7.out); have n1_ := Aside0.mk (Kd.R_at hq_ HO_8.out); have n2_ := Aside0.mk (Kd.R_at hq_ HO320.out); have n3_ := Aside0.mk (Kd.C_at hq_ HR317.out); have n4_ := Aside0.mk (below_at hq_ HB.out); clear hq_ HO_7 HO_8 HO320 HR317 HB; have HO_7 := n0_; have HO_8 := n1_; have HO320 := n2_; have HR317 := n3_; have HB := n4_; clear n0_ n1_ n2_ n3_ n4_; (try (have HP41 := Kd.R_putg HO320.out ((ji36) : Int) (Go.bits .xor .u8 (rd y318 (ji36)) a2))))); refine store_event (t := 5) (p := 71) (v := ?vo_w42) (w1 := (w34.setCell ⟨go39, ((ji36) : Int).toNat, none⟩ (.int .u8 (Go.bits .xor .u8 (rd y318 (ji36)) a2)))) ?hg ?ho ?hn ?hr ?_; (case ho => rfl); (case hg => rfl); (case hn => rfl); (case hr => first | (go_simp; done) | (go_simp; rfl)); intro w42 hw; have hg : w34.grownBy w42 (some go39) := (by rw [hw]; exact HP41.2); have hp_ : Kd.R (Kd.int .u8) 5 w42 w.heap.size (fun k_ => some k_ ≠ (.slice Ao33 x7_1.length co33 : Value).ownBlock) (.slice (some ⟨go39, 0, none⟩) y318.length co40) y322 := (by rw [hw, Ny322.out]; exact HP41.1); clear HP41; have n0_ := Aside0.mk (Kd.R_after (v := (.slice (some ⟨go39, 0, none⟩) y318.length co40)) (v1 := (.slice (some ⟨go39, 0, none⟩) y318.length co40)) (ok := (fun _ => True)) (by (with_reducible repeat (first | apply Kd.R_alloc | apply Kd.R_drewN | apply Kd.R_drew)); exact HO_7.out) hg (.inl rfl)); have n1_ := Aside0.mk (Kd.R_over' (v := (.slice (some ⟨go39, 0, none⟩) y318.length co40)) (by (with_reducible repeat (first | apply Kd.R_alloc | apply Kd.R_drewN | apply Kd.R_drew)); exact HO_8.out) (Kd.R_typed HO320.out) (by decide) hg); have n2_ := Aside0.mk (hp_); have n3_ := Aside0.mk ((by rw [hw]; exact below_set (HB.out) GB39.out : Below w.heap.size w w42)); have n4_ := Aside0.mk ((show Kd.C (Kd.int .u8) w42 Ao33 y314.length y314 from by rw [Ny314.out]; exact Kd.C_take (m := (a1 : Int).toNat) ((Kd.R_reads' (Kd.R_after (v := (.slice (some ⟨go39, 0, none⟩) y318.length co40)) (v1 := (.slice (some ⟨go39, 0, none⟩) y318.length co40)) (ok := (fun _ => True)) (by (with_reducible repeat (first | apply Kd.R_alloc | apply Kd.R_drewN | apply Kd.R_drew)); exact HO_7.out) hg (.inl rfl))).2.2) KL32.out)); clear HO_7; clear HO_8; clear HO320; clear HB; clear HR317; have HO_7 := n0_; have HO_8 := n1_; have HO320 := n2_; have HB := n3_; have HR317 := n4_; clear n0_ n1_ n2_ n3_ n4_; clear hg hw hp_)); try go_wp2_with (first | ((with_reducible refine gate_store (t := 5) (p := 71) rfl ?_); (try (rw [drewN_self w34]; generalize hq_ : World.drewN w34 _ = w34; have n0_ := Aside0.mk (Kd.R_at hq_ HO_7.out); have n1_ := Aside0.mk (Kd.R_at hq_ HO_8.out); have n2_ := Aside0.mk (Kd.R_at hq_ HO320.out); have n3_ := Aside0.mk (Kd.C_at hq_ HR317.out); have n4_ := Aside0.mk (below_at hq_ HB.out); clear hq_ HO_7 HO_8 HO320 HR317 HB; have HO_7 := n0_; have HO_8 := n1_; have HO320 := n2_; have HR317 := n3_; have HB := n4_; clear n0_ n1_ n2_ n3_ n4_; (try (have HP41 := Kd.R_putg HO320.out ((ji36) : Int) (Go.bits .xor .u8 (rd y318 (ji36)) a2))))); refine store_event (t := 5) (p := 71) (v := ?vo_w42) (w1 := (w34.setCell ⟨go39, ((ji36) : Int).toNat, none⟩ (.int .u8 (Go.bits .xor .u8 (rd y318 (ji36)) a2)))) ?hg ?ho ?hn ?hr ?_; (case ho => rfl); (case hg => rfl); (case hn => rfl); (case hr => first | (go_simp; done) | (go_simp; rfl)); intro w42 hw; have hg : w34.grownBy w42 (some go39) := (by rw [hw]; exact HP41.2); have hp_ : Kd.R (Kd.int .u8) 5 w42 w.heap.size (fun k_ => some k_ ≠ (.slice Ao33 x7_1.length co33 : Value).ownBlock) (.slice (some ⟨go39, 0, none⟩) y318.length co40) y322 := (by rw [hw, Ny322.out]; exact HP41.1); clear HP41; have n0_ := Aside0.mk (Kd.R_after (v := (.slice (some ⟨go39, 0, none⟩) y318.length co40)) (v1 := (.slice (some ⟨go39, 0, none⟩) y318.length co40)) (ok := (fun _ => True)) (by (with_reducible repeat (first | apply Kd.R_alloc | apply Kd.R_drewN | apply Kd.R_drew)); exact HO_7.out) hg (.inl rfl)); have n1_ := Aside0.mk (Kd.R_over' (v := (.slice (some ⟨go39, 0, none⟩) y318.length co40)) (by (with_reducible repeat (first | apply Kd.R_alloc | apply Kd.R_drewN | apply Kd.R_drew)); exact HO_8.out) (Kd.R_typed HO320.out) (by decide) hg); have n2_ := Aside0.mk (hp_); have n3_ := Aside0.mk ((by rw [hw]; exact below_set (HB.out) GB39.out : Below w.heap.size w w42)); have n4_ := Aside0.mk ((show Kd.C (Kd.int .u8) w42 Ao33 y314.length y314 from by rw [Ny314.out]; exact Kd.C_take (m := (a1 : Int).toNat) ((Kd.R_reads' (Kd.R_after (v := (.slice (some ⟨go39, 0, none⟩) y318.length co40)) (v1 := (.slice (some ⟨go39, 0, none⟩) y318.length co40)) (ok := (fun _ => True)) (by (with_reducible repeat (first | apply Kd.R_alloc | apply Kd.R_drewN | apply Kd.R_drew)); exact HO_7.out) hg (.inl rfl))).2.2) KL32.out)); clear HO_7; clear HO_8; clear HO320; clear HB; clear HR317; have HO_7 := n0_; have HO_8 := n1_; have HO320 := n2_; have HB := n3_; have HR317 := n4_; clear n0_ n1_ n2_ n3_ n4_; clear hg hw hp_)))
                                go_meet
                                case rel => exact ⟨_, (y322), H', ⟨by have := HK1.out; have := HJ21.out; first | omega | exact Nat.le_refl _⟩, ⟨by (with_reducible repeat (first | apply Kd.R_alloc | apply Kd.R_drewN | apply Kd.R_drew)); exact HO_8.out⟩, ⟨by (with_reducible repeat (first | apply Kd.R_alloc | apply Kd.R_drewN | apply Kd.R_drew)); exact Kd.R_mono HO320.out (fun _ hk => trivial)⟩, ⟨by repeat (first | (with_reducible exact HR317.out) | (with_reducible refine Kd.C_alloc ?_ _) | (with_reducible refine Kd.C_drewN ?_ _) | (with_reducible refine Kd.C_drew ?_) | exact HR317.out)⟩, ⟨by repeat (first | (with_reducible first | exact HB.out | apply below_alloc | apply pw_below_drewN | apply below_drew1) | exact HB.out)⟩⟩
                              · rw [if_neg c38] at H
                                exact absurd H (by simp)
                            · rw [if_neg c37] at H
                              exact absurd H (by simp)
                          · rw [if_neg c35] at H
                            have c35b0 : decide (0 < a1) = false := decide_eq_false c35
                            clear c35
                            (first | rw [c35b0] | (simp only [i64_w, i32_w]; rw [c35b0]) | skip)
                            have H' := Aside0.mk H
                            clear H
                            go_wp2
                            repeat (go_quiet (fail); try go_wp2)
                            go_meet
                            case rel => exact ⟨_, (y318), H', ⟨by have := HK1.out; have := HJ21.out; first | omega | exact Nat.le_refl _⟩, ⟨by (with_reducible repeat (first | apply Kd.R_alloc | apply Kd.R_drewN | apply Kd.R_drew)); exact HO_8.out⟩, ⟨by (with_reducible repeat (first | apply Kd.R_alloc | apply Kd.R_drewN | apply Kd.R_drew)); exact Kd.R_mono HO320.out (fun _ hk => trivial)⟩, ⟨by repeat (first | (with_reducible exact HR317.out) | (with_reducible refine Kd.C_alloc ?_ _) | (with_reducible refine Kd.C_drewN ?_ _) | (with_reducible refine Kd.C_drew ?_) | exact HR317.out)⟩, ⟨by repeat (first | (with_reducible first | exact HB.out | apply below_alloc | apply pw_below_drewN | apply below_drew1) | exact HB.out)⟩⟩
                        case rest =>
                          clear HC29
                          try clear c1
                          try clear c2
                          try clear p2
                          try clear c3
                          try clear p3
                          try clear q3
                          try clear hx3
                          try clear hf3
                          try clear c5
                          try clear c6
                          try clear c6b0
                          try clear c6b1
                          try clear p6
                          try clear c9
                          try clear c9b0
                          try clear c10
                          try clear c10b0
                          try clear c11
                          try clear c11b0
                          try clear c12
                          try clear c12b0
                          try clear c12b1
                          try clear c14
                          try clear c14b0
                          try clear c14b1
                          try clear c15
                          try clear c23
                          try clear c23b0
                          try clear c25
                          try clear c26
                          try clear c26b0
                          try clear c26b1
                          try clear c27
                          try clear c27b0
                          try clear c27b1
                          try clear c28
                          try clear c30
                          try clear p30
                          try clear q30
                          try clear hx30
                          try clear p32
                          try clear q32
                          try clear hx32
                          try clear c35
                          try clear c35b0
                          try clear c37
                          try clear c37b0
                          try clear c38
                          try clear c38b0
                          try clear p39
                          try clear q39
                          try clear hx39
                          try clear hf39
                          try clear hx303_0
                          try clear hx321_0
                          try clear hx39_0
                          try clear p2
                          try clear p3
                          try clear p303
                          try clear p321
                          try clear p39
                          try clear p6
                          try clear q3
                          try clear q303
                          try clear q32
                          try clear q321
                          try clear q39
                          obtain ⟨kq, x13_28, HA, HJ28, HO_8, HO_13, HR317, HB⟩ := hcut
                          cases kq with
                          | zero => exact absurd HA.out (by simp [contralaw05_FrameTorn.j2])
                          | succ kj28 =>
                            have H := HA.out
                            clear HA
                            simp only [contralaw05_FrameTorn.j2] at H
                            have H' := Aside0.mk H
                            clear H
                            obtain ⟨Ao43, co43, eo43⟩ := Kd.R_slice HO_8.out
                            subst eo43
                            go_wp2
                            repeat (go_quiet (fail); try go_wp2)
                            go_loopg [14, 74] kj28 (fun kq v14 v74 w' => ∃ (x14_4 : Int) (x74_4 : Int), v14 = .int .i64 x14_4 ∧ v74 = .int .i64 x74_4 ∧ Aside0 (contralaw05_FrameTorn.l1 kq l0 a1 a2 x8_1 x13_28 x14_4 x8_1 (x8_1.length : Int) x74_4 = some r) ∧ Aside0 (kq ≤ kj28) ∧ Aside0 (Kd.R (Kd.int .i64) 3 w' w.heap.size (fun _ => True) (.slice Ao43 x8_1.length co43) x8_1) ∧ Aside0 (Kd.R (Kd.int .u8) 5 w' w.heap.size (fun _ => True) v319 x13_28) ∧ Aside0 (Kd.R (Kd.int .i64) 3 w' w.heap.size (fun _ => True) (.slice Ao43 x8_1.length co43) x8_1) ∧ Aside0 (Kd.C (Kd.int .u8) w' Ao33 y314.length y314) ∧ Aside0 (Below w.heap.size w w'))
                            case atStart => exact ⟨(0), (0), (by first | rfl | (simp; done) | (simp [*]; done)), (by first | rfl | (simp; done) | (simp [*]; done)), H', ⟨Nat.le_refl _⟩, ⟨by (with_reducible repeat (first | apply Kd.R_alloc | apply Kd.R_drewN | apply Kd.R_drew)); exact HO_8.out⟩, ⟨by (with_reducible repeat (first | apply Kd.R_alloc | apply Kd.R_drewN | apply Kd.R_drew)); exact HO_13.out⟩, ⟨by (with_reducible repeat (first | apply Kd.R_alloc | apply Kd.R_drewN | apply Kd.R_drew)); exact HO_8.out⟩, ⟨by repeat (first | (with_reducible exact HR317.out) | (with_reducible refine Kd.C_alloc ?_ _) | (with_reducible refine Kd.C_drewN ?_ _) | (with_reducible refine Kd.C_drew ?_) | exact HR317.out)⟩, ⟨by repeat (first | (with_reducible first | exact HB.out | apply below_alloc | apply pw_below_drewN | apply below_drew1) | exact HB.out)⟩⟩
                            case round =>
                              clear H'
                              try clear c1
                              try clear c2
                              try clear p2
                              try clear c3
                              try clear p3
                              try clear q3
                              try clear hx3
                              try clear hf3
                              try clear c5
                              try clear c6
                              try clear c6b0
                              try clear c6b1
                              try clear p6
                              try clear c9
                              try clear c9b0
                              try clear c10
                              try clear c10b0
                              try clear c11
                              try clear c11b0
                              try clear c12
                              try clear c12b0
                              try clear c12b1
                              try clear c14
                              try clear c14b0
                              try clear c14b1
                              try clear c15
                              try clear c23
                              try clear c23b0
                              try clear c25
                              try clear c26
                              try clear c26b0
                              try clear c26b1
                              try clear c27
                              try clear c27b0
                              try clear c27b1
                              try clear c28
                              try clear c30
                              try clear p30
                              try clear q30
                              try clear hx30
                              try clear p32
                              try clear q32
                              try clear hx32
                              try clear c35
                              try clear c35b0
                              try clear c37
                              try clear c37b0
                              try clear c38
                              try clear c38b0
                              try clear p39
                              try clear q39
                              try clear hx39
                              try clear hf39
                              try clear hx303_0
                              try clear hx321_0
                              try clear hx39_0
                              try clear p2
                              try clear p3
                              try clear p30
                              try clear p303
                              try clear p32
                              try clear p321
                              try clear p39
                              try clear p6
                              try clear q3
                              try clear q30
                              try clear q303
                              try clear q32
                              try clear q321
                              try clear q39
                              obtain ⟨x14_4, x74_4, rfl, rfl, HA, HK4, HO_8, HO_13, HO_72, HR317, HB⟩ := hrel
                              cases gk with
                              | zero => exact absurd HA.out (by simp [contralaw05_FrameTorn.l1])
                              | succ k4 =>
                                have H := HA.out
                                clear HA
                                simp only [contralaw05_FrameTorn.l1] at H
                                by_cases c44 : x74_4 < (x8_1.length : Int)
                                · rw [if_pos c44] at H
                                  have c44b0 : decide (x74_4 < (x8_1.length : Int)) = true := decide_eq_true c44
                                  clear c44
                                  by_cases c45 : 0 ≤ x74_4
                                  · rw [if_pos c45] at H
                                    have c45b0 : decide (0 ≤ x74_4) = true := decide_eq_true c45
                                    clear c45
                                    by_cases c46 : x74_4 < (x8_1.length : Int)
                                    · rw [if_pos c46] at H
                                      have c46b0 : decide (x74_4 < (x8_1.length : Int)) = true := decide_eq_true c46
                                      clear c46
                                      by_cases c47 : (rd x8_1 x74_4) < a1
                                      · rw [if_pos c47] at H
                                        have c47b0 : decide ((rd x8_1 x74_4) < a1) = true := decide_eq_true c47
                                        clear c47
                                        have H' := Aside0.mk H
                                        clear H
                                        have p323 : 0 ≤ (x74_4 : Int) := of_decide_eq_true (by first | (with_reducible assumption) | assumption)
                                        have q323 : x74_4 < (x8_1.length : Int) := of_decide_eq_true (by first | (with_reducible assumption) | assumption)
                                        obtain ⟨ad323, e323, hx323_0⟩ := Kd.at_int (Kd.R_reads' HO_72.out).2.2 x74_4 p323 q323
                                        cases e323
                                        replace p323 := eq_true p323
                                        replace q323 := eq_true q323
                                        go_wp2
                                        repeat (go_quiet (fail); try go_wp2)
                                        go_roundg k4
                                        case measure => have := HK1.out; have := HJ21.out; have := HJ28.out; have := HK4.out; omega
                                        case rel => exact ⟨(wrap64 (x14_4 + 1)), (wrap64 (x74_4 + 1)), (by first | rfl | (simp; done) | (simp [*]; done)), (by first | rfl | (simp; done) | (simp [*]; done)), H', ⟨by have := HK1.out; have := HJ21.out; have := HJ28.out; have := HK4.out; omega⟩, ⟨by (with_reducible repeat (first | apply Kd.R_alloc | apply Kd.R_drewN | apply Kd.R_drew)); exact HO_8.out⟩, ⟨by (with_reducible repeat (first | apply Kd.R_alloc | apply Kd.R_drewN | apply Kd.R_drew)); exact HO_13.out⟩, ⟨by (with_reducible repeat (first | apply Kd.R_alloc | apply Kd.R_drewN | apply Kd.R_drew)); exact HO_72.out⟩, ⟨by repeat (first | (with_reducible exact HR317.out) | (with_reducible refine Kd.C_alloc ?_ _) | (with_reducible refine Kd.C_drewN ?_ _) | (with_reducible refine Kd.C_drew ?_) | exact HR317.out)⟩, ⟨by repeat (first | (with_reducible first | exact HB.out | apply below_alloc | apply pw_below_drewN | apply below_drew1) | exact HB.out)⟩⟩
                                      · rw [if_neg c47] at H
                                        have c47b0 : decide ((rd x8_1 x74_4) < a1) = false := decide_eq_false c47
                                        clear c47
                                        by_cases c48 : (rd x8_1 x74_4) = a1
                                        · rw [if_pos c48] at H
                                          have c48b0 : ((rd x8_1 x74_4) == a1) = true := beq_iff_eq.mpr c48
                                          have c48b1 : ((rd x8_1 x74_4) != a1) = false := bne_eq_false_iff_eq.mpr c48
                                          clear c48
                                          by_cases c49 : a2 = 0
                                          · rw [if_pos c49] at H
                                            have c49b0 : (a2 == 0) = true := beq_iff_eq.mpr c49
                                            have c49b1 : (a2 != 0) = false := bne_eq_false_iff_eq.mpr c49
                                            clear c49
                                            have H' := Aside0.mk H
                                            clear H
                                            have p323 : 0 ≤ (x74_4 : Int) := of_decide_eq_true (by first | (with_reducible assumption) | assumption)
                                            have q323 : x74_4 < (x8_1.length : Int) := of_decide_eq_true (by first | (with_reducible assumption) | assumption)
                                            obtain ⟨ad323, e323, hx323_0⟩ := Kd.at_int (Kd.R_reads' HO_72.out).2.2 x74_4 p323 q323
                                            cases e323
                                            replace p323 := eq_true p323
                                            replace q323 := eq_true q323
                                            go_wp2
                                            repeat (go_quiet (fail); try go_wp2)
                                            go_roundg k4
                                            case measure => have := HK1.out; have := HJ21.out; have := HJ28.out; have := HK4.out; omega
                                            case rel => exact ⟨(wrap64 (x14_4 + 1)), (wrap64 (x74_4 + 1)), (by first | rfl | (simp; done) | (simp [*]; done)), (by first | rfl | (simp; done) | (simp [*]; done)), H', ⟨by have := HK1.out; have := HJ21.out; have := HJ28.out; have := HK4.out; omega⟩, ⟨by (with_reducible repeat (first | apply Kd.R_alloc | apply Kd.R_drewN | apply Kd.R_drew)); exact HO_8.out⟩, ⟨by (with_reducible repeat (first | apply Kd.R_alloc | apply Kd.R_drewN | apply Kd.R_drew)); exact HO_13.out⟩, ⟨by (with_reducible repeat (first | apply Kd.R_alloc | apply Kd.R_drewN | apply Kd.R_drew)); exact HO_72.out⟩, ⟨by repeat (first | (with_reducible exact HR317.out) | (with_reducible refine Kd.C_alloc ?_ _) | (with_reducible refine Kd.C_drewN ?_ _) | (with_reducible refine Kd.C_drew ?_) | exact HR317.out)⟩, ⟨by repeat (first | (with_reducible first | exact HB.out | apply below_alloc | apply pw_below_drewN | apply below_drew1) | exact HB.out)⟩⟩
                                          · rw [if_neg c49] at H
                                            have c49b0 : (a2 == 0) = false := beq_eq_false_iff_ne.mpr c49
                                            have c49b1 : (a2 != 0) = true := bne_iff_ne.mpr c49
                                            have H' := Aside0.mk H
                                            clear H
                                            have p323 : 0 ≤ (x74_4 : Int) := of_decide_eq_true (by first | (with_reducible assumption) | assumption)
                                            have q323 : x74_4 < (x8_1.length : Int) := of_decide_eq_true (by first | (with_reducible assumption) | assumption)
                                            obtain ⟨ad323, e323, hx323_0⟩ := Kd.at_int (Kd.R_reads' HO_72.out).2.2 x74_4 p323 q323
                                            cases e323
                                            replace p323 := eq_true p323
                                            replace q323 := eq_true q323
                                            go_wp2
                                            repeat (go_quiet (fail); try go_wp2)
                                            go_roundg k4
                                            case measure => have := HK1.out; have := HJ21.out; have := HJ28.out; have := HK4.out; omega
                                            case rel => exact ⟨(x14_4), (wrap64 (x74_4 + 1)), (by first | rfl | (simp; done) | (simp [*]; done)), (by first | rfl | (simp; done) | (simp [*]; done)), H', ⟨by have := HK1.out; have := HJ21.out; have := HJ28.out; have := HK4.out; omega⟩, ⟨by (with_reducible repeat (first | apply Kd.R_alloc | apply Kd.R_drewN | apply Kd.R_drew)); exact HO_8.out⟩, ⟨by (with_reducible repeat (first | apply Kd.R_alloc | apply Kd.R_drewN | apply Kd.R_drew)); exact HO_13.out⟩, ⟨by (with_reducible repeat (first | apply Kd.R_alloc | apply Kd.R_drewN | apply Kd.R_drew)); exact HO_72.out⟩, ⟨by repeat (first | (with_reducible exact HR317.out) | (with_reducible refine Kd.C_alloc ?_ _) | (with_reducible refine Kd.C_drewN ?_ _) | (with_reducible refine Kd.C_drew ?_) | exact HR317.out)⟩, ⟨by repeat (first | (with_reducible first | exact HB.out | apply below_alloc | apply pw_below_drewN | apply below_drew1) | exact HB.out)⟩⟩
                                        · rw [if_neg c48] at H
                                          have c48b0 : ((rd x8_1 x74_4) == a1) = false := beq_eq_false_iff_ne.mpr c48
                                          have c48b1 : ((rd x8_1 x74_4) != a1) = true := bne_iff_ne.mpr c48
                                          have H' := Aside0.mk H
                                          clear H
                                          have p323 : 0 ≤ (x74_4 : Int) := of_decide_eq_true (by first | (with_reducible assumption) | assumption)
                                          have q323 : x74_4 < (x8_1.length : Int) := of_decide_eq_true (by first | (with_reducible assumption) | assumption)
                                          obtain ⟨ad323, e323, hx323_0⟩ := Kd.at_int (Kd.R_reads' HO_72.out).2.2 x74_4 p323 q323
                                          cases e323
                                          replace p323 := eq_true p323
                                          replace q323 := eq_true q323
                                          go_wp2
                                          repeat (go_quiet (fail); try go_wp2)
                                          go_roundg k4
                                          case measure => have := HK1.out; have := HJ21.out; have := HJ28.out; have := HK4.out; omega
                                          case rel => exact ⟨(x14_4), (wrap64 (x74_4 + 1)), (by first | rfl | (simp; done) | (simp [*]; done)), (by first | rfl | (simp; done) | (simp [*]; done)), H', ⟨by have := HK1.out; have := HJ21.out; have := HJ28.out; have := HK4.out; omega⟩, ⟨by (with_reducible repeat (first | apply Kd.R_alloc | apply Kd.R_drewN | apply Kd.R_drew)); exact HO_8.out⟩, ⟨by (with_reducible repeat (first | apply Kd.R_alloc | apply Kd.R_drewN | apply Kd.R_drew)); exact HO_13.out⟩, ⟨by (with_reducible repeat (first | apply Kd.R_alloc | apply Kd.R_drewN | apply Kd.R_drew)); exact HO_72.out⟩, ⟨by repeat (first | (with_reducible exact HR317.out) | (with_reducible refine Kd.C_alloc ?_ _) | (with_reducible refine Kd.C_drewN ?_ _) | (with_reducible refine Kd.C_drew ?_) | exact HR317.out)⟩, ⟨by repeat (first | (with_reducible first | exact HB.out | apply below_alloc | apply pw_below_drewN | apply below_drew1) | exact HB.out)⟩⟩
                                    · rw [if_neg c46] at H
                                      exact absurd H (by simp)
                                  · rw [if_neg c45] at H
                                    exact absurd H (by simp)
                                · rw [if_neg c44] at H
                                  have c44b0 : decide (x74_4 < (x8_1.length : Int)) = false := decide_eq_false c44
                                  clear c44
                                  replace H := Option.bind_eq_some_iff.mp H
                                  obtain ⟨⟨t324, t325⟩, A500, H⟩ := H
                                  replace H : (if (t324.length : Int) = x14_4 then (contralaw05_FrameTorn.l2 k4 l0 x8_1 x14_4 t324 t325 (t324.length : Int) 0) else (some false)) = some r := H
                                  have A50 := Aside0.mk A500
                                  clear A500
                                  by_cases c51 : (t324.length : Int) = x14_4
                                  · rw [if_pos c51] at H
                                    have c51b0 : ((t324.length : Int) == x14_4) = true := beq_iff_eq.mpr c51
                                    have c51b1 : ((t324.length : Int) != x14_4) = false := bne_eq_false_iff_eq.mpr c51
                                    clear c51
                                    have H' := Aside0.mk H
                                    clear H
                                    obtain ⟨Ao52, co52, eo52⟩ := Kd.R_slice HO_13.out
                                    subst eo52
                                    go_wp2_with (first | (go_at_call 23; (with_reducible refine (frame_Scan.calls k4 _ _ x13_28 t324 t325 _ ?side1 ?side2 A50.out).mono ?_); (case side1 => repeat (first | exact (Kd.R_reads' HO_13.out).2.2 | (with_reducible refine Kd.C_alloc ?_ _) | (with_reducible refine Kd.C_drewN ?_ _) | (with_reducible refine Kd.C_drew ?_))); (case side2 => exact (Kd.R_reads' HO_13.out).2.1); rintro e w53 ⟨v326, rfl, ho0, hb⟩; have n0_ := Aside0.mk (Kd.R_below (by (with_reducible repeat (first | apply Kd.R_alloc | apply Kd.R_drewN | apply Kd.R_drew)); exact HO_8.out) hb); have n1_ := Aside0.mk (Kd.R_below (by (with_reducible repeat (first | apply Kd.R_alloc | apply Kd.R_drewN | apply Kd.R_drew)); exact HO_13.out) hb); have n2_ := Aside0.mk (Kd.R_below (by (with_reducible repeat (first | apply Kd.R_alloc | apply Kd.R_drewN | apply Kd.R_drew)); exact HO_72.out) hb); have n3_ := Aside0.mk (Kd.S_lower (Kd.S_new' ho0 (Kd.R_lt (by (with_reducible repeat (first | apply Kd.R_alloc | apply Kd.R_drewN | apply Kd.R_drew)); exact HO_13.out))) (below_size (by repeat (first | (with_reducible first | exact HB.out | apply below_alloc | apply pw_below_drewN | apply below_drew1) | exact HB.out)))); have n4_ := Aside0.mk (Kd.C_below (by repeat (first | (with_reducible exact HR317.out) | (with_reducible refine Kd.C_alloc ?_ _) | (with_reducible refine Kd.C_drewN ?_ _) | (with_reducible refine Kd.C_drew ?_) | exact HR317.out)) hb); have n5_ := Aside0.mk (below_step (by repeat (first | (with_reducible first | exact HB.out | apply below_alloc | apply pw_below_drewN | apply below_drew1) | exact HB.out)) hb); clear HO_8; clear HO_13; clear HO_72; clear HR317; clear HB; have HO_8 := n0_; have HO_13 := n1_; have HO_72 := n2_; have HO327 := n3_; have HR317 := n4_; have HB := n5_; clear n0_ n1_ n2_ n3_ n4_ n5_; (try clear hb); (try clear hb2); (try clear hk); (try clear hi); (try clear ho0); obtain ⟨Ao54, co54, eo54⟩ := Kd.S_slice HO327.out; subst eo54))
                                    repeat (go_quiet (first | (go_at_call 23; (with_reducible refine (frame_Scan.calls k4 _ _ x13_28 t324 t325 _ ?side1 ?side2 A50.out).mono ?_); (case side1 => repeat (first | exact (Kd.R_reads' HO_13.out).2.2 | (with_reducible refine Kd.C_alloc ?_ _) | (with_reducible refine Kd.C_drewN ?_ _) | (with_reducible refine Kd.C_drew ?_))); (case side2 => exact (Kd.R_reads' HO_13.out).2.1); rintro e w53 ⟨v326, rfl, ho0, hb⟩; have n0_ := Aside0.mk (Kd.R_below (by (with_reducible repeat (first | apply Kd.R_alloc | apply Kd.R_drewN | apply Kd.R_drew)); exact HO_8.out) hb); have n1_ := Aside0.mk (Kd.R_below (by (with_reducible repeat (first | apply Kd.R_alloc | apply Kd.R_drewN | apply Kd.R_drew)); exact HO_13.out) hb); have n2_ := Aside0.mk (Kd.R_below (by (with_reducible repeat (first | apply Kd.R_alloc | apply Kd.R_drewN | apply Kd.R_drew)); exact HO_72.out) hb); have n3_ := Aside0.mk (Kd.S_lower (Kd.S_new' ho0 (Kd.R_lt (by (with_reducible repeat (first | apply Kd.R_alloc | apply Kd.R_drewN | apply Kd.R_drew)); exact HO_13.out))) (below_size (by repeat (first | (with_reducible first | exact HB.out | apply below_alloc | apply pw_below_drewN | apply below_drew1) | exact HB.out)))); have n4_ := Aside0.mk (Kd.C_below (by repeat (first | (with_reducible exact HR317.out) | (with_reducible refine Kd.C_alloc ?_ _) | (with_reducible refine Kd.C_drewN ?_ _) | (with_reducible refine Kd.C_drew ?_) | exact HR317.out)) hb); have n5_ := Aside0.mk (below_step (by repeat (first | (with_reducible first | exact HB.out | apply below_alloc | apply pw_below_drewN | apply below_drew1) | exact HB.out)) hb); clear HO_8; clear HO_13; clear HO_72; clear HR317; clear HB; have HO_8 := n0_; have HO_13 := n1_; have HO_72 := n2_; have HO327 := n3_; have HR317 := n4_; have HB := n5_; clear n0_ n1_ n2_ n3_ n4_ n5_; (try clear hb); (try clear hb2); (try clear hk); (try clear hi); (try clear ho0); obtain ⟨Ao54, co54, eo54⟩ := Kd.S_slice HO327.out; subst eo54)); try go_wp2_with (first | (go_at_call 23; (with_reducible refine (frame_Scan.calls k4 _ _ x13_28 t324 t325 _ ?side1 ?side2 A50.out).mono ?_); (case side1 => repeat (first | exact (Kd.R_reads' HO_13.out).2.2 | (with_reducible refine Kd.C_alloc ?_ _) | (with_reducible refine Kd.C_drewN ?_ _) | (with_reducible refine Kd.C_drew ?_))); (case side2 => exact (Kd.R_reads' HO_13.out).2.1); rintro e w53 ⟨v326, rfl, ho0, hb⟩; have n0_ := Aside0.mk (Kd.R_below (by (with_reducible repeat (first | apply Kd.R_alloc | apply Kd.R_drewN | apply Kd.R_drew)); exact HO_8.out) hb); have n1_ := Aside0.mk (Kd.R_below (by (with_reducible repeat (first | apply Kd.R_alloc | apply Kd.R_drewN | apply Kd.R_drew)); exact HO_13.out) hb); have n2_ := Aside0.mk (Kd.R_below (by (with_reducible repeat (first | apply Kd.R_alloc | apply Kd.R_drewN | apply Kd.R_drew)); exact HO_72.out) hb); have n3_ := Aside0.mk (Kd.S_lower (Kd.S_new' ho0 (Kd.R_lt (by (with_reducible repeat (first | apply Kd.R_alloc | apply Kd.R_drewN | apply Kd.R_drew)); exact HO_13.out))) (below_size (by repeat (first | (with_reducible first | exact HB.out | apply below_alloc | apply pw_below_drewN | apply below_drew1) | exact HB.out)))); have n4_ := Aside0.mk (Kd.C_below (by repeat (first | (with_reducible exact HR317.out) | (with_reducible refine Kd.C_alloc ?_ _) | (with_reducible refine Kd.C_drewN ?_ _) | (with_reducible refine Kd.C_drew ?_) | exact HR317.out)) hb); have n5_ := Aside0.mk (below_step (by repeat (first | (with_reducible first | exact HB.out | apply below_alloc | apply pw_below_drewN | apply below_drew1) | exact HB.out)) hb); clear HO_8; clear HO_13; clear HO_72; clear HR317; clear HB; have HO_8 := n0_; have HO_13 := n1_; have HO_72 := n2_; have HO327 := n3_; have HR317 := n4_; have HB := n5_; clear n0_ n1_ n2_ n3_ n4_ n5_; (try clear hb); (try clear hb2); (try clear hk); (try clear hi); (try clear ho0); obtain ⟨Ao54, co54, eo54⟩ := Kd.S_slice HO327.out; subst eo54)))
                                    go_loopg [104] k4 (fun kq v104 w' => ∃ (x104_5 : Int), v104 = .int .i64 x104_5 ∧ Aside0 (contralaw05_FrameTorn.l2 kq l0 x8_1 x14_4 t324 t325 (t324.length : Int) x104_5 = some r) ∧ Aside0 (kq ≤ k4) ∧ Aside0 (Kd.R (Kd.int .i64) 3 w' w.heap.size (fun _ => True) (.slice Ao43 x8_1.length co43) x8_1) ∧ Aside0 (Kd.S (Kd.slice 5 (Kd.int .u8)) 22 w' w.heap.size (fun _ => True) (.slice Ao54 t324.length co54) t324) ∧ Aside0 (Kd.C (Kd.int .u8) w' Ao33 y314.length y314) ∧ Aside0 (Below w.heap.size w w'))
                                    case atStart => exact ⟨(0), (by first | rfl | (simp; done) | (simp [*]; done)), H', ⟨Nat.le_refl _⟩, ⟨by (with_reducible repeat (first | apply Kd.R_alloc | apply Kd.R_drewN | apply Kd.R_drew)); exact HO_8.out⟩, ⟨by (with_reducible repeat (first | apply Kd.S_alloc | apply Kd.S_drewN | apply Kd.S_drew)); exact Kd.S_mono HO327.out (fun _ hk => trivial)⟩, ⟨by repeat (first | (with_reducible exact HR317.out) | (with_reducible refine Kd.C_alloc ?_ _) | (with_reducible refine Kd.C_drewN ?_ _) | (with_reducible refine Kd.C_drew ?_) | exact HR317.out)⟩, ⟨by repeat (first | (with_reducible first | exact HB.out | apply below_alloc | apply pw_below_drewN | apply below_drew1) | exact HB.out)⟩⟩
                                    case round =>
                                      clear H'
                                      try clear c1
                                      try clear c2
                                      try clear p2
                                      try clear c3
                                      try clear p3
                                      try clear q3
                                      try clear hx3
                                      try clear hf3
                                      try clear c4
                                      try clear c5
                                      try clear c6
                                      try clear c6b0
                                      try clear c6b1
                                      try clear p6
                                      try clear c9
                                      try clear c9b0
                                      try clear c10
                                      try clear c10b0
                                      try clear c11
                                      try clear c11b0
                                      try clear c12
                                      try clear c12b0
                                      try clear c12b1
                                      try clear c14
                                      try clear c14b0
                                      try clear c14b1
                                      try clear c15
                                      try clear c23
                                      try clear c23b0
                                      try clear c25
                                      try clear c26
                                      try clear c26b0
                                      try clear c26b1
                                      try clear c27
                                      try clear c27b0
                                      try clear c27b1
                                      try clear c28
                                      try clear c30
                                      try clear p30
                                      try clear q30
                                      try clear hx30
                                      try clear p32
                                      try clear q32
                                      try clear hx32
                                      try clear c35
                                      try clear c35b0
                                      try clear c37
                                      try clear c37b0
                                      try clear c38
                                      try clear c38b0
                                      try clear p39
                                      try clear q39
                                      try clear hx39
                                      try clear hf39
                                      try clear c44
                                      try clear c44b0
                                      try clear c45
                                      try clear c45b0
                                      try clear c46
                                      try clear c46b0
                                      try clear c47
                                      try clear c47b0
                                      try clear c48
                                      try clear c48b0
                                      try clear c48b1
                                      try clear c49
                                      try clear c49b0
                                      try clear c49b1
                                      try clear c51
                                      try clear c51b0
                                      try clear c51b1
                                      try clear hx303_0
                                      try clear hx321_0
                                      try clear hx323_0
                                      try clear hx39_0
                                      try clear p2
                                      try clear p3
                                      try clear p30
                                      try clear p303
                                      try clear p32
                                      try clear p321
                                      try clear p323
                                      try clear p39
                                      try clear p6
                                      try clear q3
                                      try clear q30
                                      try clear q303
                                      try clear q32
                                      try clear q321
                                      try clear q323
                                      try clear q39
                                      obtain ⟨x104_5, rfl, HA, HK5, HO_8, HO_17, HR317, HB⟩ := hrel
                                      cases gk with
                                      | zero => exact absurd HA.out (by simp [contralaw05_FrameTorn.l2])
                                      | succ k5 =>
                                        have H := HA.out
                                        clear HA
                                        simp only [contralaw05_FrameTorn.l2] at H
                                        by_cases c55 : x104_5 < (t324.length : Int)
                                        · rw [if_pos c55] at H
                                          have c55b0 : decide (x104_5 < (t324.length : Int)) = true := decide_eq_true c55
                                          clear c55
                                          by_cases c56 : 0 ≤ x104_5
                                          · rw [if_pos c56] at H
                                            have c56b0 : decide (0 ≤ x104_5) = true := decide_eq_true c56
                                            clear c56
                                            by_cases c57 : x104_5 < (t324.length : Int)
                                            · rw [if_pos c57] at H
                                              have c57b0 : decide (x104_5 < (t324.length : Int)) = true := decide_eq_true c57
                                              clear c57
                                              by_cases c58 : x104_5 < (l0.length : Int)
                                              · rw [if_pos c58] at H
                                                have c58b0 : decide (x104_5 < (l0.length : Int)) = true := decide_eq_true c58
                                                clear c58
                                                by_cases c59 : (strOfNums (rd_L3 t324 x104_5)).toList = (strOfNums (rd_L3 l0 x104_5)).toList
                                                · rw [if_pos c59] at H
                                                  have c59b0 : ((strOfNums (rd_L3 t324 x104_5)).toList == (strOfNums (rd_L3 l0 x104_5)).toList) = true := beq_iff_eq.mpr c59
                                                  have c59b1 : ((strOfNums (rd_L3 t324 x104_5)).toList != (strOfNums (rd_L3 l0 x104_5)).toList) = false := bne_eq_false_iff_eq.mpr c59
                                                  clear c59
                                                  have H' := Aside0.mk H
                                                  clear H
                                                  have p328 : 0 ≤ (x104_5 : Int) := of_decide_eq_true (by first | (with_reducible assumption) | assumption)
                                                  have q328 : x104_5 < (t324.length : Int) := of_decide_eq_true (by first | (with_reducible assumption) | assumption)
                                                  obtain ⟨ad328, A328_0, c328_0, e328, hx328_0, hl328_0, hi328_0⟩ := at_L3 (Kd.S_reads' HO_17.out).2.2 x104_5 p328 q328
                                                  cases e328
                                                  obtain ⟨ce328, hce328, hMe328, hcc328⟩ := Kd.S_get HO_17.out [] x104_5 p328 (by first | exact q328 | exact of_decide_eq_true (by first | (with_reducible assumption) | assumption) | (have e_ := (Kd.S_reads' HO_17.out).1; omega))
                                                  obtain ⟨ve328_0, rfl, ge328_0⟩ := hMe328
                                                  have hv328_0 := hcc328 0 _ rfl
                                                  rw [Nat.add_zero, show ((Kd.slice 5 (Kd.int .u8))).sz = 1 from rfl, Nat.mul_one] at hv328_0
                                                  replace hv328_0 := Option.some.inj (hv328_0.symm.trans hx328_0)
                                                  rw [hv328_0] at ge328_0
                                                  have HL328_0 := Aside0.mk (show Kd.R (Kd.int .u8) 5 _ _ _ _ (rd_L3 t324 x104_5) from ge328_0)
                                                  clear hv328_0 ge328_0
                                                  clear hcc328 hce328
                                                  have HR328_0 := Aside0.mk hi328_0
                                                  have HC328_0 := Aside0.mk hl328_0
                                                  clear hi328_0 hl328_0
                                                  replace p328 := eq_true p328
                                                  replace q328 := eq_true q328
                                                  have hcvq60 := fun n_ : Nat => Kd.C_string (P := Try.prog) (A := A328_0) (c := c328_0) Try.underlying22 Try.underlying5 Try.underlying9 (Kd.C_drewN (by repeat (first | (with_reducible exact HR328_0.out) | (with_reducible refine Kd.C_alloc ?_ _) | (with_reducible refine Kd.C_drewN ?_ _) | (with_reducible refine Kd.C_drew ?_) | exact HR328_0.out)) n_)
                                                  have hcv61 := Kd.C_string (P := Try.prog) (A := A328_0) (c := c328_0) Try.underlying22 Try.underlying5 Try.underlying9 (by repeat (first | (with_reducible exact HR328_0.out) | (with_reducible refine Kd.C_alloc ?_ _) | (with_reducible refine Kd.C_drewN ?_ _) | (with_reducible refine Kd.C_drew ?_) | exact HR328_0.out))
                                                  have p329 : 0 ≤ (x104_5 : Int) := of_decide_eq_true (by first | (with_reducible assumption) | assumption)
                                                  have q329 : x104_5 < (l0.length : Int) := of_decide_eq_true (by first | (with_reducible assumption) | assumption)
                                                  obtain ⟨ad329, A329_0, c329_0, e329, hx329_0, hl329_0, hi329_0⟩ := at_L3 HR0.out x104_5 p329 q329
                                                  cases e329
                                                  replace hx329_0 := (HB.out.cell (World.block_lt_of_cell? w _ hx329_0)).trans hx329_0
                                                  have HR329_0 := Aside0.mk hi329_0
                                                  have HC329_0 := Aside0.mk hl329_0
                                                  clear hi329_0 hl329_0
                                                  replace p329 := eq_true p329
                                                  replace q329 := eq_true q329
                                                  have hcvq62 := fun n_ : Nat => Kd.C_string (P := Try.prog) (A := A329_0) (c := c329_0) Try.underlying22 Try.underlying5 Try.underlying9 (Kd.C_drewN (Kd.C_below HR329_0.out HB.out) n_)
                                                  have hcv63 := Kd.C_string (P := Try.prog) (A := A329_0) (c := c329_0) Try.underlying22 Try.underlying5 Try.underlying9 (Kd.C_below HR329_0.out HB.out)
                                                  go_wp2
                                                  repeat (go_quiet (fail); try go_wp2)
                                                  go_roundg k5
                                                  case measure => have := HK1.out; have := HJ21.out; have := HJ28.out; have := HK4.out; have := HK5.out; omega
                                                  case rel => exact ⟨(wrap64 (x104_5 + 1)), (by first | rfl | (simp; done) | (simp [*]; done)), H', ⟨by have := HK1.out; have := HJ21.out; have := HJ28.out; have := HK4.out; have := HK5.out; omega⟩, ⟨by (with_reducible repeat (first | apply Kd.R_alloc | apply Kd.R_drewN | apply Kd.R_drew)); exact HO_8.out⟩, ⟨by (with_reducible repeat (first | apply Kd.S_alloc | apply Kd.S_drewN | apply Kd.S_drew)); exact HO_17.out⟩, ⟨by repeat (first | (with_reducible exact HR317.out) | (with_reducible refine Kd.C_alloc ?_ _) | (with_reducible refine Kd.C_drewN ?_ _) | (with_reducible refine Kd.C_drew ?_) | exact HR317.out)⟩, ⟨by repeat (first | (with_reducible first | exact HB.out | apply below_alloc | apply pw_below_drewN | apply below_drew1) | exact HB.out)⟩⟩
                                                · rw [if_neg c59] at H
                                                  have c59b0 : ((strOfNums (rd_L3 t324 x104_5)).toList == (strOfNums (rd_L3 l0 x104_5)).toList) = false := beq_eq_false_iff_ne.mpr c59
                                                  have c59b1 : ((strOfNums (rd_L3 t324 x104_5)).toList != (strOfNums (rd_L3 l0 x104_5)).toList) = true := bne_iff_ne.mpr c59
                                                  obtain rfl := Option.some.inj H
                                                  have p328 : 0 ≤ (x104_5 : Int) := of_decide_eq_true (by first | (with_reducible assumption) | assumption)
                                                  have q328 : x104_5 < (t324.length : Int) := of_decide_eq_true (by first | (with_reducible assumption) | assumption)
                                                  obtain ⟨ad328, A328_0, c328_0, e328, hx328_0, hl328_0, hi328_0⟩ := at_L3 (Kd.S_reads' HO_17.out).2.2 x104_5 p328 q328
                                                  cases e328
                                                  obtain ⟨ce328, hce328, hMe328, hcc328⟩ := Kd.S_get HO_17.out [] x104_5 p328 (by first | exact q328 | exact of_decide_eq_true (by first | (with_reducible assumption) | assumption) | (have e_ := (Kd.S_reads' HO_17.out).1; omega))
                                                  obtain ⟨ve328_0, rfl, ge328_0⟩ := hMe328
                                                  have hv328_0 := hcc328 0 _ rfl
                                                  rw [Nat.add_zero, show ((Kd.slice 5 (Kd.int .u8))).sz = 1 from rfl, Nat.mul_one] at hv328_0
                                                  replace hv328_0 := Option.some.inj (hv328_0.symm.trans hx328_0)
                                                  rw [hv328_0] at ge328_0
                                                  have HL328_0 := Aside0.mk (show Kd.R (Kd.int .u8) 5 _ _ _ _ (rd_L3 t324 x104_5) from ge328_0)
                                                  clear hv328_0 ge328_0
                                                  clear hcc328 hce328
                                                  have HR328_0 := Aside0.mk hi328_0
                                                  have HC328_0 := Aside0.mk hl328_0
                                                  clear hi328_0 hl328_0
                                                  replace p328 := eq_true p328
                                                  replace q328 := eq_true q328
                                                  have hcvq64 := fun n_ : Nat => Kd.C_string (P := Try.prog) (A := A328_0) (c := c328_0) Try.underlying22 Try.underlying5 Try.underlying9 (Kd.C_drewN (by repeat (first | (with_reducible exact HR328_0.out) | (with_reducible refine Kd.C_alloc ?_ _) | (with_reducible refine Kd.C_drewN ?_ _) | (with_reducible refine Kd.C_drew ?_) | exact HR328_0.out)) n_)
                                                  have hcv65 := Kd.C_string (P := Try.prog) (A := A328_0) (c := c328_0) Try.underlying22 Try.underlying5 Try.underlying9 (by repeat (first | (with_reducible exact HR328_0.out) | (with_reducible refine Kd.C_alloc ?_ _) | (with_reducible refine Kd.C_drewN ?_ _) | (with_reducible refine Kd.C_drew ?_) | exact HR328_0.out))
                                                  have p329 : 0 ≤ (x104_5 : Int) := of_decide_eq_true (by first | (with_reducible assumption) | assumption)
                                                  have q329 : x104_5 < (l0.length : Int) := of_decide_eq_true (by first | (with_reducible assumption) | assumption)
                                                  obtain ⟨ad329, A329_0, c329_0, e329, hx329_0, hl329_0, hi329_0⟩ := at_L3 HR0.out x104_5 p329 q329
                                                  cases e329
                                                  replace hx329_0 := (HB.out.cell (World.block_lt_of_cell? w _ hx329_0)).trans hx329_0
                                                  have HR329_0 := Aside0.mk hi329_0
                                                  have HC329_0 := Aside0.mk hl329_0
                                                  clear hi329_0 hl329_0
                                                  replace p329 := eq_true p329
                                                  replace q329 := eq_true q329
                                                  have hcvq66 := fun n_ : Nat => Kd.C_string (P := Try.prog) (A := A329_0) (c := c329_0) Try.underlying22 Try.underlying5 Try.underlying9 (Kd.C_drewN (Kd.C_below HR329_0.out HB.out) n_)
                                                  have hcv67 := Kd.C_string (P := Try.prog) (A := A329_0) (c := c329_0) Try.underlying22 Try.underlying5 Try.underlying9 (Kd.C_below HR329_0.out HB.out)
                                                  go_wp2
                                                  repeat (go_quiet (fail); try go_wp2)
                                                  go_ret
                                                  exact ⟨by first | rfl | (simp [errW_none, errW_some] <;> rfl) | (simp [*, errW_none, errW_some] <;> rfl), by repeat (first | (with_reducible first | exact HB.out | apply below_alloc | apply pw_below_drewN | apply below_drew1) | exact HB.out)⟩
                                              · rw [if_neg c58] at H
                                                exact absurd H (by simp)
                                            · rw [if_neg c57] at H
                                              exact absurd H (by simp)
                                          · rw [if_neg c56] at H
                                            exact absurd H (by simp)
                                        · rw [if_neg c55] at H
                                          have c55b0 : decide (x104_5 < (t324.length : Int)) = false := decide_eq_false c55
                                          clear c55
                                          by_cases c68 : x14_4 = 0
                                          · rw [if_pos c68] at H
                                            have c68b0 : (x14_4 == 0) = true := beq_iff_eq.mpr c68
                                            have c68b1 : (x14_4 != 0) = false := bne_eq_false_iff_eq.mpr c68
                                            clear c68
                                            by_cases c69 : t325 = 0
                                            · rw [if_pos c69] at H
                                              have c69b0 : (t325 == 0) = true := beq_iff_eq.mpr c69
                                              have c69b1 : (t325 != 0) = false := bne_eq_false_iff_eq.mpr c69
                                              clear c69
                                              obtain rfl := Option.some.inj H
                                              go_wp2
                                              repeat (go_quiet (fail); try go_wp2)
                                              go_ret
                                              exact ⟨by first | rfl | (simp [errW_none, errW_some] <;> rfl) | (simp [*, errW_none, errW_some] <;> rfl), by repeat (first | (with_reducible first | exact HB.out | apply below_alloc | apply pw_below_drewN | apply below_drew1) | exact HB.out)⟩
                                            · rw [if_neg c69] at H
                                              have c69b0 : (t325 == 0) = false := beq_eq_false_iff_ne.mpr c69
                                              have c69b1 : (t325 != 0) = true := bne_iff_ne.mpr c69
                                              by_cases c70 : x14_4 > 0
                                              · rw [if_pos c70] at H
                                                have c70b0 : decide (0 < x14_4) = true := decide_eq_true c70
                                                clear c70
                                                obtain ⟨ji71, hji71⟩ : ∃ j_ : Int, (wrap64 (x14_4 - 1)) = j_ := ⟨_, rfl⟩
                                                replace H : (if 0 ≤ (ji71) then (if (ji71) < (x8_1.length : Int) then (some (t325 == (rd x8_1 (ji71)))) else (none)) else (none)) = some r := by first | (rw [hji71] at H; exact H) | (simp only [hji71] at H ⊢; exact H)
                                                have hji71w : (IntKind.i64.wrap (x14_4 - 1)) = ji71 := (i64_w _).trans hji71
                                                by_cases c72 : 0 ≤ (ji71)
                                                · rw [if_pos c72] at H
                                                  have c72b0 : decide (0 ≤ (ji71)) = true := decide_eq_true c72
                                                  clear c72
                                                  by_cases c73 : (ji71) < (x8_1.length : Int)
                                                  · rw [if_pos c73] at H
                                                    have c73b0 : decide ((ji71) < (x8_1.length : Int)) = true := decide_eq_true c73
                                                    clear c73
                                                    obtain rfl := Option.some.inj H
                                                    have p330 : 0 ≤ ((ji71) : Int) := of_decide_eq_true (by first | (with_reducible assumption) | assumption)
                                                    have q330 : (ji71) < (x8_1.length : Int) := of_decide_eq_true (by first | (with_reducible assumption) | assumption)
                                                    obtain ⟨ad330, e330, hx330_0⟩ := Kd.at_int (Kd.R_reads' HO_8.out).2.2 (ji71) p330 q330
                                                    cases e330
                                                    replace p330 := eq_true p330
                                                    replace q330 := eq_true q330
                                                    go_wp2
                                                    repeat (go_quiet (fail); try go_wp2)
                                                    go_ret
                                                    exact ⟨by first | rfl | (simp [errW_none, errW_some] <;> rfl) | (simp only [← hji71]; first | rfl | (simp [errW_none, errW_some] <;> rfl)) | (simp [*, errW_none, errW_some] <;> rfl), by repeat (first | (with_reducible first | exact HB.out | apply below_alloc | apply pw_below_drewN | apply below_drew1) | exact HB.out)⟩
                                                  · rw [if_neg c73] at H
                                                    exact absurd H (by simp)
                                                · rw [if_neg c72] at H
                                                  exact absurd H (by simp)
                                              · rw [if_neg c70] at H
                                                have c70b0 : decide (0 < x14_4) = false := decide_eq_false c70
                                                clear c70
                                                obtain rfl := Option.some.inj H
                                                go_wp2
                                                repeat (go_quiet (fail); try go_wp2)
                                                go_ret
                                                exact ⟨by first | rfl | (simp [errW_none, errW_some] <;> rfl) | (simp [*, errW_none, errW_some] <;> rfl), by repeat (first | (with_reducible first | exact HB.out | apply below_alloc | apply pw_below_drewN | apply below_drew1) | exact HB.out)⟩
                                          · rw [if_neg c68] at H
                                            have c68b0 : (x14_4 == 0) = false := beq_eq_false_iff_ne.mpr c68
                                            have c68b1 : (x14_4 != 0) = true := bne_iff_ne.mpr c68
                                            by_cases c74 : x14_4 > 0
                                            · rw [if_pos c74] at H
                                              have c74b0 : decide (0 < x14_4) = true := decide_eq_true c74
                                              clear c74
                                              obtain ⟨ji75, hji75⟩ : ∃ j_ : Int, (wrap64 (x14_4 - 1)) = j_ := ⟨_, rfl⟩
                                              replace H : (if 0 ≤ (ji75) then (if (ji75) < (x8_1.length : Int) then (some (t325 == (rd x8_1 (ji75)))) else (none)) else (none)) = some r := by first | (rw [hji75] at H; exact H) | (simp only [hji75] at H ⊢; exact H)
                                              have hji75w : (IntKind.i64.wrap (x14_4 - 1)) = ji75 := (i64_w _).trans hji75
                                              by_cases c76 : 0 ≤ (ji75)
                                              · rw [if_pos c76] at H
                                                have c76b0 : decide (0 ≤ (ji75)) = true := decide_eq_true c76
                                                clear c76
                                                by_cases c77 : (ji75) < (x8_1.length : Int)
                                                · rw [if_pos c77] at H
                                                  have c77b0 : decide ((ji75) < (x8_1.length : Int)) = true := decide_eq_true c77
                                                  clear c77
                                                  obtain rfl := Option.some.inj H
                                                  have p331 : 0 ≤ ((ji75) : Int) := of_decide_eq_true (by first | (with_reducible assumption) | assumption)
                                                  have q331 : (ji75) < (x8_1.length : Int) := of_decide_eq_true (by first | (with_reducible assumption) | assumption)
                                                  obtain ⟨ad331, e331, hx331_0⟩ := Kd.at_int (Kd.R_reads' HO_8.out).2.2 (ji75) p331 q331
                                                  cases e331
                                                  replace p331 := eq_true p331
                                                  replace q331 := eq_true q331
                                                  go_wp2
                                                  repeat (go_quiet (fail); try go_wp2)
                                                  go_ret
                                                  exact ⟨by first | rfl | (simp [errW_none, errW_some] <;> rfl) | (simp only [← hji75]; first | rfl | (simp [errW_none, errW_some] <;> rfl)) | (simp [*, errW_none, errW_some] <;> rfl), by repeat (first | (with_reducible first | exact HB.out | apply below_alloc | apply pw_below_drewN | apply below_drew1) | exact HB.out)⟩
                                                · rw [if_neg c77] at H
                                                  exact absurd H (by simp)
                                              · rw [if_neg c76] at H
                                                exact absurd H (by simp)
                                            · rw [if_neg c74] at H
                                              have c74b0 : decide (0 < x14_4) = false := decide_eq_false c74
                                              clear c74
                                              obtain rfl := Option.some.inj H
                                              go_wp2
                                              repeat (go_quiet (fail); try go_wp2)
                                              go_ret
                                              exact ⟨by first | rfl | (simp [errW_none, errW_some] <;> rfl) | (simp [*, errW_none, errW_some] <;> rfl), by repeat (first | (with_reducible first | exact HB.out | apply below_alloc | apply pw_below_drewN | apply below_drew1) | exact HB.out)⟩
                                  · rw [if_neg c51] at H
                                    have c51b0 : ((t324.length : Int) == x14_4) = false := beq_eq_false_iff_ne.mpr c51
                                    have c51b1 : ((t324.length : Int) != x14_4) = true := bne_iff_ne.mpr c51
                                    obtain rfl := Option.some.inj H
                                    obtain ⟨Ao78, co78, eo78⟩ := Kd.R_slice HO_13.out
                                    subst eo78
                                    go_wp2_with (first | (go_at_call 23; (with_reducible refine (frame_Scan.calls k4 _ _ x13_28 t324 t325 _ ?side1 ?side2 A50.out).mono ?_); (case side1 => repeat (first | exact (Kd.R_reads' HO_13.out).2.2 | (with_reducible refine Kd.C_alloc ?_ _) | (with_reducible refine Kd.C_drewN ?_ _) | (with_reducible refine Kd.C_drew ?_))); (case side2 => exact (Kd.R_reads' HO_13.out).2.1); rintro e w79 ⟨v326, rfl, ho0, hb⟩; have n0_ := Aside0.mk (Kd.R_below (by (with_reducible repeat (first | apply Kd.R_alloc | apply Kd.R_drewN | apply Kd.R_drew)); exact HO_8.out) hb); have n1_ := Aside0.mk (Kd.R_below (by (with_reducible repeat (first | apply Kd.R_alloc | apply Kd.R_drewN | apply Kd.R_drew)); exact HO_13.out) hb); have n2_ := Aside0.mk (Kd.R_below (by (with_reducible repeat (first | apply Kd.R_alloc | apply Kd.R_drewN | apply Kd.R_drew)); exact HO_72.out) hb); have n3_ := Aside0.mk (Kd.S_lower (Kd.S_new' ho0 (Kd.R_lt (by (with_reducible repeat (first | apply Kd.R_alloc | apply Kd.R_drewN | apply Kd.R_drew)); exact HO_13.out))) (below_size (by repeat (first | (with_reducible first | exact HB.out | apply below_alloc | apply pw_below_drewN | apply below_drew1) | exact HB.out)))); have n4_ := Aside0.mk (Kd.C_below (by repeat (first | (with_reducible exact HR317.out) | (with_reducible refine Kd.C_alloc ?_ _) | (with_reducible refine Kd.C_drewN ?_ _) | (with_reducible refine Kd.C_drew ?_) | exact HR317.out)) hb); have n5_ := Aside0.mk (below_step (by repeat (first | (with_reducible first | exact HB.out | apply below_alloc | apply pw_below_drewN | apply below_drew1) | exact HB.out)) hb); clear HO_8; clear HO_13; clear HO_72; clear HR317; clear HB; have HO_8 := n0_; have HO_13 := n1_; have HO_72 := n2_; have HO327 := n3_; have HR317 := n4_; have HB := n5_; clear n0_ n1_ n2_ n3_ n4_ n5_; (try clear hb); (try clear hb2); (try clear hk); (try clear hi); (try clear ho0); obtain ⟨Ao80, co80, eo80⟩ := Kd.S_slice HO327.out; subst eo80))
                                    repeat (go_quiet (first | (go_at_call 23; (with_reducible refine (frame_Scan.calls k4 _ _ x13_28 t324 t325 _ ?side1 ?side2 A50.out).mono ?_); (case side1 => repeat (first | exact (Kd.R_reads' HO_13.out).2.2 | (with_reducible refine Kd.C_alloc ?_ _) | (with_reducible refine Kd.C_drewN ?_ _) | (with_reducible refine Kd.C_drew ?_))); (case side2 => exact (Kd.R_reads' HO_13.out).2.1); rintro e w79 ⟨v326, rfl, ho0, hb⟩; have n0_ := Aside0.mk (Kd.R_below (by (with_reducible repeat (first | apply Kd.R_alloc | apply Kd.R_drewN | apply Kd.R_drew)); exact HO_8.out) hb); have n1_ := Aside0.mk (Kd.R_below (by (with_reducible repeat (first | apply Kd.R_alloc | apply Kd.R_drewN | apply Kd.R_drew)); exact HO_13.out) hb); have n2_ := Aside0.mk (Kd.R_below (by (with_reducible repeat (first | apply Kd.R_alloc | apply Kd.R_drewN | apply Kd.R_drew)); exact HO_72.out) hb); have n3_ := Aside0.mk (Kd.S_lower (Kd.S_new' ho0 (Kd.R_lt (by (with_reducible repeat (first | apply Kd.R_alloc | apply Kd.R_drewN | apply Kd.R_drew)); exact HO_13.out))) (below_size (by repeat (first | (with_reducible first | exact HB.out | apply below_alloc | apply pw_below_drewN | apply below_drew1) | exact HB.out)))); have n4_ := Aside0.mk (Kd.C_below (by repeat (first | (with_reducible exact HR317.out) | (with_reducible refine Kd.C_alloc ?_ _) | (with_reducible refine Kd.C_drewN ?_ _) | (with_reducible refine Kd.C_drew ?_) | exact HR317.out)) hb); have n5_ := Aside0.mk (below_step (by repeat (first | (with_reducible first | exact HB.out | apply below_alloc | apply pw_below_drewN | apply below_drew1) | exact HB.out)) hb); clear HO_8; clear HO_13; clear HO_72; clear HR317; clear HB; have HO_8 := n0_; have HO_13 := n1_; have HO_72 := n2_; have HO327 := n3_; have HR317 := n4_; have HB := n5_; clear n0_ n1_ n2_ n3_ n4_ n5_; (try clear hb); (try clear hb2); (try clear hk); (try clear hi); (try clear ho0); obtain ⟨Ao80, co80, eo80⟩ := Kd.S_slice HO327.out; subst eo80)); try go_wp2_with (first | (go_at_call 23; (with_reducible refine (frame_Scan.calls k4 _ _ x13_28 t324 t325 _ ?side1 ?side2 A50.out).mono ?_); (case side1 => repeat (first | exact (Kd.R_reads' HO_13.out).2.2 | (with_reducible refine Kd.C_alloc ?_ _) | (with_reducible refine Kd.C_drewN ?_ _) | (with_reducible refine Kd.C_drew ?_))); (case side2 => exact (Kd.R_reads' HO_13.out).2.1); rintro e w79 ⟨v326, rfl, ho0, hb⟩; have n0_ := Aside0.mk (Kd.R_below (by (with_reducible repeat (first | apply Kd.R_alloc | apply Kd.R_drewN | apply Kd.R_drew)); exact HO_8.out) hb); have n1_ := Aside0.mk (Kd.R_below (by (with_reducible repeat (first | apply Kd.R_alloc | apply Kd.R_drewN | apply Kd.R_drew)); exact HO_13.out) hb); have n2_ := Aside0.mk (Kd.R_below (by (with_reducible repeat (first | apply Kd.R_alloc | apply Kd.R_drewN | apply Kd.R_drew)); exact HO_72.out) hb); have n3_ := Aside0.mk (Kd.S_lower (Kd.S_new' ho0 (Kd.R_lt (by (with_reducible repeat (first | apply Kd.R_alloc | apply Kd.R_drewN | apply Kd.R_drew)); exact HO_13.out))) (below_size (by repeat (first | (with_reducible first | exact HB.out | apply below_alloc | apply pw_below_drewN | apply below_drew1) | exact HB.out)))); have n4_ := Aside0.mk (Kd.C_below (by repeat (first | (with_reducible exact HR317.out) | (with_reducible refine Kd.C_alloc ?_ _) | (with_reducible refine Kd.C_drewN ?_ _) | (with_reducible refine Kd.C_drew ?_) | exact HR317.out)) hb); have n5_ := Aside0.mk (below_step (by repeat (first | (with_reducible first | exact HB.out | apply below_alloc | apply pw_below_drewN | apply below_drew1) | exact HB.out)) hb); clear HO_8; clear HO_13; clear HO_72; clear HR317; clear HB; have HO_8 := n0_; have HO_13 := n1_; have HO_72 := n2_; have HO327 := n3_; have HR317 := n4_; have HB := n5_; clear n0_ n1_ n2_ n3_ n4_ n5_; (try clear hb); (try clear hb2); (try clear hk); (try clear hi); (try clear ho0); obtain ⟨Ao80, co80, eo80⟩ := Kd.S_slice HO327.out; subst eo80)))
                                    go_ret
                                    exact ⟨by first | rfl | (simp [errW_none, errW_some] <;> rfl) | (simp [*, errW_none, errW_some] <;> rfl), by repeat (first | (with_reducible first | exact HB.out | apply below_alloc | apply pw_below_drewN | apply below_drew1) | exact HB.out)⟩
                      · rw [if_neg c28] at H
                        exact absurd H (by simp)
                    · rw [if_neg c27] at H
                      exact absurd H (by simp)
                  · rw [if_neg c26] at H
                    exact absurd H (by simp)
  · replace c5 := Bool.eq_false_iff.mpr c5
    subst c5
    have H1 : (some false) = some r := by rw [if_neg (show ¬ (false = true) by decide)] at H; exact H
    clear H
    have H := H1
    clear H1
    obtain rfl := Option.some.inj H
    go_enter Try.func11, Try.ntmps11
    go_wp2_with (first | (go_at_call 18; (with_reducible refine (contralaw05_records.calls k  false _ A4.out).mono ?_); rintro e w81 ⟨rfl, hb⟩; have n0_ := Aside0.mk (below_step (by repeat (first | (with_reducible first | exact HB.out | apply below_alloc | apply pw_below_drewN | apply below_drew1) | exact HB.out)) hb); clear HB; have HB := n0_; clear n0_; (try clear hb); (try clear hb2); (try clear hk); (try clear hi)))
    repeat (go_quiet (first | (go_at_call 18; (with_reducible refine (contralaw05_records.calls k  false _ A4.out).mono ?_); rintro e w81 ⟨rfl, hb⟩; have n0_ := Aside0.mk (below_step (by repeat (first | (with_reducible first | exact HB.out | apply below_alloc | apply pw_below_drewN | apply below_drew1) | exact HB.out)) hb); clear HB; have HB := n0_; clear n0_; (try clear hb); (try clear hb2); (try clear hk); (try clear hi))); try go_wp2_with (first | (go_at_call 18; (with_reducible refine (contralaw05_records.calls k  false _ A4.out).mono ?_); rintro e w81 ⟨rfl, hb⟩; have n0_ := Aside0.mk (below_step (by repeat (first | (with_reducible first | exact HB.out | apply below_alloc | apply pw_below_drewN | apply below_drew1) | exact HB.out)) hb); clear HB; have HB := n0_; clear n0_; (try clear hb); (try clear hb2); (try clear hk); (try clear hi))))
    go_ret
    exact ⟨by first | rfl | (simp [errW_none, errW_some] <;> rfl) | (simp [*, errW_none, errW_some] <;> rfl), by repeat (first | (with_reducible first | exact HB.out | apply below_alloc | apply pw_below_drewN | apply below_drew1) | exact HB.out)⟩

end Go.Proofs.Ytipkgplkeebhkaa.M
