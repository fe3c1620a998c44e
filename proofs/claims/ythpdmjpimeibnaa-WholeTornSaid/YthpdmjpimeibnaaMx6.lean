/- Written by a program of this session (a turned copy of the printer: wip/turnprint.py): for each Go function a plain one, and the walk that shows that the code comes to just its answers. -/
import Derived.Test.YthpdmjpimeibnaaMx0
namespace Go.Proofs.Ythpdmjpimeibnaa.M
open Go.RowKit Go.Proofs.YthpdmjpimeibnaaW.PrintWords Go.Proofs.YthpdmjpimeibnaaW.PrintLast Go.Proofs.YthpdmjpimeibnaaW.PrintMore
attribute [local go_sem] max2_int min2_int max_two min_two max_three min_three max_four min_four   -- for this text's walks alone
set_option linter.unusedVariables false
set_option linter.unusedSimpArgs false

/-! ### contraref03_Of: function 57 -/
mutual
def contraref03_Of.l0 : Nat → ByteArray → List Bool → Int → Option (Int)
  | 0, _, _, _ => none
  | k + 1, x0, x3, x4 => if x4 < (x0.size : Int) then (contraref03_Of.l1 k x0 x3 x4 0) else (contraref03_Of.l2 k x3 0)
def contraref03_Of.l1 : Nat → ByteArray → List Bool → Int → Int → Option (Int)
  | 0, _, _, _, _ => none
  | k + 1, x0, x3, x4, x5 => if x5 < 8 then (if 0 ≤ x4 then (if x4 < (x0.size : Int) then (if 0 ≤ x5 then (if x3.length < 140737488355328 then (contraref03_Of.l1 k x0 (x3 ++ [((Int.tmod (shr .u8 (bt x0 x4) x5) 2) == 1)]) x4 (wrap64 (x5 + 1))) else (none)) else (none)) else (none)) else (none)) else (contraref03_Of.l0 k x0 x3 (wrap64 (x4 + 1)))
def contraref03_Of.l2 : Nat → List Bool → Int → Option (Int)
  | 0, _, _ => none
  | k + 1, x3, x6 => if x6 < 32 then (if x3.length < 140737488355328 then (contraref03_Of.l2 k (x3 ++ [false]) (wrap64 (x6 + 1))) else (none)) else (contraref03_Of.l3 k x3 0)
def contraref03_Of.l3 : Nat → List Bool → Int → Option (Int)
  | 0, _, _ => none
  | k + 1, x3, x7 => if x7 < 32 then (if 0 ≤ x7 then (if x7 < (x3.length : Int) then (contraref03_Of.l3 k (x3.set (x7 : Int).toNat (!(rdOf false x3 x7))) (wrap64 (x7 + 1))) else (none)) else (none)) else (contraref03_Of.l4 k x3 (([0, 6, 9, 10, 16, 20, 21, 22, 24, 25, 27, 28, 30, 31, 32] : List Int)) 0)
def contraref03_Of.l4 : Nat → List Bool → List Int → Int → Option (Int)
  | 0, _, _, _ => none
  | k + 1, x3, x8, x9 => if (wrap64 (x9 + 32)) < (x3.length : Int) then (if 0 ≤ x9 then (if x9 < (x3.length : Int) then (if rdOf false x3 x9 = true then (contraref03_Of.l5 k x3 x8 x9 0) else (contraref03_Of.l4 k x3 x8 (wrap64 (x9 + 1)))) else (none)) else (none)) else (contraref03_Of.l6 k x3 0 0)
def contraref03_Of.l5 : Nat → List Bool → List Int → Int → Int → Option (Int)
  | 0, _, _, _, _ => none
  | k + 1, x3, x8, x9, x10 => if x10 < (x8.length : Int) then (if 0 ≤ x10 then (if 0 ≤ (wrap64 (x9 + (rd x8 x10))) then (if (wrap64 (x9 + (rd x8 x10))) < (x3.length : Int) then (contraref03_Of.l5 k (x3.set ((wrap64 (x9 + (rd x8 x10))) : Int).toNat (!(rdOf false x3 (wrap64 (x9 + (rd x8 x10)))))) x8 x9 (wrap64 (x10 + 1))) else (none)) else (none)) else (none)) else (contraref03_Of.l4 k x3 x8 (wrap64 (x9 + 1)))
def contraref03_Of.l6 : Nat → List Bool → Int → Int → Option (Int)
  | 0, _, _, _ => none
  | k + 1, x3, x11, x12 => if x12 < 32 then (if 0 ≤ (wrap64 ((wrap64 ((x3.length : Int) - 32)) + x12)) then (if (wrap64 ((wrap64 ((x3.length : Int) - 32)) + x12)) < (x3.length : Int) then (if (rdOf false x3 (wrap64 ((wrap64 ((x3.length : Int) - 32)) + x12)) = true) then (contraref03_Of.l6 k x3 x11 (wrap64 (x12 + 1))) else (if 0 ≤ x12 then (contraref03_Of.l6 k x3 (wrap64 (x11 + (shl .i64 1 x12))) (wrap64 (x12 + 1))) else (none))) else (none)) else (none)) else (some x11)
end
def contraref03_Of.f (k : Nat) (a0 : ByteArray) : Option (Int) := contraref03_Of.l0 k a0 ([] : List Bool) 0
theorem contraref03_Of.mono_l : ∀ k, (∀ y0 y1 y2, LeO (contraref03_Of.l0 k y0 y1 y2) (contraref03_Of.l0 (k + 1) y0 y1 y2)) ∧ (∀ y0 y1 y2 y3, LeO (contraref03_Of.l1 k y0 y1 y2 y3) (contraref03_Of.l1 (k + 1) y0 y1 y2 y3)) ∧ (∀ y0 y1, LeO (contraref03_Of.l2 k y0 y1) (contraref03_Of.l2 (k + 1) y0 y1)) ∧ (∀ y0 y1, LeO (contraref03_Of.l3 k y0 y1) (contraref03_Of.l3 (k + 1) y0 y1)) ∧ (∀ y0 y1 y2, LeO (contraref03_Of.l4 k y0 y1 y2) (contraref03_Of.l4 (k + 1) y0 y1 y2)) ∧ (∀ y0 y1 y2 y3, LeO (contraref03_Of.l5 k y0 y1 y2 y3) (contraref03_Of.l5 (k + 1) y0 y1 y2 y3)) ∧ (∀ y0 y1 y2, LeO (contraref03_Of.l6 k y0 y1 y2) (contraref03_Of.l6 (k + 1) y0 y1 y2))
  | 0 => ⟨fun _ _ _ r h => by simp [contraref03_Of.l0] at h, fun _ _ _ _ r h => by simp [contraref03_Of.l1] at h, fun _ _ r h => by simp [contraref03_Of.l2] at h, fun _ _ r h => by simp [contraref03_Of.l3] at h, fun _ _ _ r h => by simp [contraref03_Of.l4] at h, fun _ _ _ _ r h => by simp [contraref03_Of.l5] at h, fun _ _ _ r h => by simp [contraref03_Of.l6] at h⟩
  | k + 1 => by
    obtain ⟨ih0, ih1, ih2, ih3, ih4, ih5, ih6⟩ := contraref03_Of.mono_l k
    refine ⟨?_, ?_, ?_, ?_, ?_, ?_, ?_⟩
    · intro y0 y1 y2
      unfold contraref03_Of.l0
      repeat' first
      | (with_reducible exact ih0 _ _ _)
      | (with_reducible exact ih1 _ _ _ _)
      | (with_reducible exact ih2 _ _)
      | (with_reducible exact ih3 _ _)
      | (with_reducible exact ih4 _ _ _)
      | (with_reducible exact ih5 _ _ _ _)
      | (with_reducible exact ih6 _ _ _)
      | (with_reducible exact LeO.refl _)
      | (with_reducible exact LeO.none _)
      | (with_reducible refine LeO.ite ?_ ?_)
      | (with_reducible refine LeO.bind ?_ (fun _ => ?_))
      | exact ih0 _ _ _
      | exact ih1 _ _ _ _
      | exact ih2 _ _
      | exact ih3 _ _
      | exact ih4 _ _ _
      | exact ih5 _ _ _ _
      | exact ih6 _ _ _
      | exact LeO.none _
      | refine LeO.ite ?_ ?_
      | refine LeO.bind ?_ (fun _ => ?_)
    · intro y0 y1 y2 y3
      unfold contraref03_Of.l1
      repeat' first
      | (with_reducible exact ih0 _ _ _)
      | (with_reducible exact ih1 _ _ _ _)
      | (with_reducible exact ih2 _ _)
      | (with_reducible exact ih3 _ _)
      | (with_reducible exact ih4 _ _ _)
      | (with_reducible exact ih5 _ _ _ _)
      | (with_reducible exact ih6 _ _ _)
      | (with_reducible exact LeO.refl _)
      | (with_reducible exact LeO.none _)
      | (with_reducible refine LeO.ite ?_ ?_)
      | (with_reducible refine LeO.bind ?_ (fun _ => ?_))
      | exact ih0 _ _ _
      | exact ih1 _ _ _ _
      | exact ih2 _ _
      | exact ih3 _ _
      | exact ih4 _ _ _
      | exact ih5 _ _ _ _
      | exact ih6 _ _ _
      | exact LeO.none _
      | refine LeO.ite ?_ ?_
      | refine LeO.bind ?_ (fun _ => ?_)
    · intro y0 y1
      unfold contraref03_Of.l2
      repeat' first
      | (with_reducible exact ih0 _ _ _)
      | (with_reducible exact ih1 _ _ _ _)
      | (with_reducible exact ih2 _ _)
      | (with_reducible exact ih3 _ _)
      | (with_reducible exact ih4 _ _ _)
      | (with_reducible exact ih5 _ _ _ _)
      | (with_reducible exact ih6 _ _ _)
      | (with_reducible exact LeO.refl _)
      | (with_reducible exact LeO.none _)
      | (with_reducible refine LeO.ite ?_ ?_)
      | (with_reducible refine LeO.bind ?_ (fun _ => ?_))
      | exact ih0 _ _ _
      | exact ih1 _ _ _ _
      | exact ih2 _ _
      | exact ih3 _ _
      | exact ih4 _ _ _
      | exact ih5 _ _ _ _
      | exact ih6 _ _ _
      | exact LeO.none _
      | refine LeO.ite ?_ ?_
      | refine LeO.bind ?_ (fun _ => ?_)
    · intro y0 y1
      unfold contraref03_Of.l3
      repeat' first
      | (with_reducible exact ih0 _ _ _)
      | (with_reducible exact ih1 _ _ _ _)
      | (with_reducible exact ih2 _ _)
      | (with_reducible exact ih3 _ _)
      | (with_reducible exact ih4 _ _ _)
      | (with_reducible exact ih5 _ _ _ _)
      | (with_reducible exact ih6 _ _ _)
      | (with_reducible exact LeO.refl _)
      | (with_reducible exact LeO.none _)
      | (with_reducible refine LeO.ite ?_ ?_)
      | (with_reducible refine LeO.bind ?_ (fun _ => ?_))
      | exact ih0 _ _ _
      | exact ih1 _ _ _ _
      | exact ih2 _ _
      | exact ih3 _ _
      | exact ih4 _ _ _
      | exact ih5 _ _ _ _
      | exact ih6 _ _ _
      | exact LeO.none _
      | refine LeO.ite ?_ ?_
      | refine LeO.bind ?_ (fun _ => ?_)
    · intro y0 y1 y2
      unfold contraref03_Of.l4
      repeat' first
      | (with_reducible exact ih0 _ _ _)
      | (with_reducible exact ih1 _ _ _ _)
      | (with_reducible exact ih2 _ _)
      | (with_reducible exact ih3 _ _)
      | (with_reducible exact ih4 _ _ _)
      | (with_reducible exact ih5 _ _ _ _)
      | (with_reducible exact ih6 _ _ _)
      | (with_reducible exact LeO.refl _)
      | (with_reducible exact LeO.none _)
      | (with_reducible refine LeO.ite ?_ ?_)
      | (with_reducible refine LeO.bind ?_ (fun _ => ?_))
      | exact ih0 _ _ _
      | exact ih1 _ _ _ _
      | exact ih2 _ _
      | exact ih3 _ _
      | exact ih4 _ _ _
      | exact ih5 _ _ _ _
      | exact ih6 _ _ _
      | exact LeO.none _
      | refine LeO.ite ?_ ?_
      | refine LeO.bind ?_ (fun _ => ?_)
    · intro y0 y1 y2 y3
      unfold contraref03_Of.l5
      repeat' first
      | (with_reducible exact ih0 _ _ _)
      | (with_reducible exact ih1 _ _ _ _)
      | (with_reducible exact ih2 _ _)
      | (with_reducible exact ih3 _ _)
      | (with_reducible exact ih4 _ _ _)
      | (with_reducible exact ih5 _ _ _ _)
      | (with_reducible exact ih6 _ _ _)
      | (with_reducible exact LeO.refl _)
      | (with_reducible exact LeO.none _)
      | (with_reducible refine LeO.ite ?_ ?_)
      | (with_reducible refine LeO.bind ?_ (fun _ => ?_))
      | exact ih0 _ _ _
      | exact ih1 _ _ _ _
      | exact ih2 _ _
      | exact ih3 _ _
      | exact ih4 _ _ _
      | exact ih5 _ _ _ _
      | exact ih6 _ _ _
      | exact LeO.none _
      | refine LeO.ite ?_ ?_
      | refine LeO.bind ?_ (fun _ => ?_)
    · intro y0 y1 y2
      unfold contraref03_Of.l6
      repeat' first
      | (with_reducible exact ih0 _ _ _)
      | (with_reducible exact ih1 _ _ _ _)
      | (with_reducible exact ih2 _ _)
      | (with_reducible exact ih3 _ _)
      | (with_reducible exact ih4 _ _ _)
      | (with_reducible exact ih5 _ _ _ _)
      | (with_reducible exact ih6 _ _ _)
      | (with_reducible exact LeO.refl _)
      | (with_reducible exact LeO.none _)
      | (with_reducible refine LeO.ite ?_ ?_)
      | (with_reducible refine LeO.bind ?_ (fun _ => ?_))
      | exact ih0 _ _ _
      | exact ih1 _ _ _ _
      | exact ih2 _ _
      | exact ih3 _ _
      | exact ih4 _ _ _
      | exact ih5 _ _ _ _
      | exact ih6 _ _ _
      | exact LeO.none _
      | refine LeO.ite ?_ ?_
      | refine LeO.bind ?_ (fun _ => ?_)
theorem contraref03_Of.mono : ∀ a0 k, LeO (contraref03_Of.f k a0) (contraref03_Of.f (k + 1) a0) := by
  intro a0 k
  obtain ⟨ih0, ih1, ih2, ih3, ih4, ih5, ih6⟩ := contraref03_Of.mono_l k
  unfold contraref03_Of.f
  repeat' first
      | (with_reducible exact ih0 _ _ _)
      | (with_reducible exact ih1 _ _ _ _)
      | (with_reducible exact ih2 _ _)
      | (with_reducible exact ih3 _ _)
      | (with_reducible exact ih4 _ _ _)
      | (with_reducible exact ih5 _ _ _ _)
      | (with_reducible exact ih6 _ _ _)
      | (with_reducible exact LeO.refl _)
      | (with_reducible exact LeO.none _)
      | (with_reducible refine LeO.ite ?_ ?_)
      | (with_reducible refine LeO.bind ?_ (fun _ => ?_))
      | exact ih0 _ _ _
      | exact ih1 _ _ _ _
      | exact ih2 _ _
      | exact ih3 _ _
      | exact ih4 _ _ _
      | exact ih5 _ _ _ _
      | exact ih6 _ _ _
      | exact LeO.none _
      | refine LeO.ite ?_ ?_
      | refine LeO.bind ?_ (fun _ => ?_)
def contraref03_Of.T25 : Bool × List (List Nat × List Nat) := (true, [([], []), ([], []), ([], []), ([], []), ([2, 3], [2, 3]), ([4], [4]), ([1, 5], [1, 5]), ([], []), ([], []), ([], []), ([], []), ([9, 10], [9, 10]), ([11], [11]), ([8, 12], [8, 12]), ([7, 13], [7, 13]), ([14], [14]), ([15], [15]), ([0, 6, 0, 1, 2, 3, 4, 5, 6, 7, 8, 9, 10, 11, 12, 13, 14, 15, 16], [0, 6]), ([17, 16, 0, 1, 2, 3, 4, 5, 6, 7, 8, 9, 10, 11, 12, 13, 14, 15, 16], [16, 17])])
def contraref03_Of.B25 : List Nat := [0, 0, 0, 0, 12, 28, 62, 0, 0, 0, 0, 1536, 3584, 7936, 16256, 32640, 65408, 131071, 262143]
theorem contraref03_Of.tab25 : rtab .any (opsOf Try.f57 25) = contraref03_Of.T25 := by kernel_rfl
theorem contraref03_Of.bits25 : waitsOk contraref03_Of.T25.2 contraref03_Of.B25 = true := by kernel_rfl
set_option maxHeartbeats 8000000 in
set_option maxRecDepth 100000 in
theorem contraref03_Of.calls (k : Nat) (a0 : ByteArray) (r : Int) (w : World) (h : contraref03_Of.f k a0 = some r) :
    Calls Try.prog 57 #[.string a0] w fun e w' => e = .returned (.int .i64 r) ∧ Below w.heap.size w w' := by
  have HB := Aside0.mk (Below.refl w.heap.size w)
  have H : (contraref03_Of.l0 k a0 ([] : List Bool) 0) = some r := h
  clear h
  have H' := Aside0.mk H
  clear H
  go_enter Try.func57, Try.ntmps57
  go_wp2
  go_loopg [3, 4] k (fun kq v3 v4 w' => ∃ (x3_1 : List Bool) (x4_1 : Int), v4 = .int .i64 x4_1 ∧ Aside0 (contraref03_Of.l0 kq a0 x3_1 x4_1 = some r) ∧ Aside0 (kq ≤ k) ∧ Aside0 (Kd.R Kd.bool 4 w' w.heap.size (fun _ => True) v3 x3_1) ∧ Aside0 (Below w.heap.size w w'))
  case atStart => exact ⟨(([] : List Bool)), (0), (by first | rfl | (simp; done) | (simp [*]; done)), H', ⟨Nat.le_refl _⟩, ⟨by first | exact Kd.R_nil _ _ _ _ _ | exact Kd.N_nil _ _ _ _ _ | exact Kd.V_nil _ _ _ _ _ | exact Kd.Q_nil _ _ _ _ _ | exact Kd.S_nil _ _ _ _ _⟩, ⟨by repeat (first | (with_reducible first | exact HB.out | apply below_alloc | apply pw_below_drewN | apply below_drew1) | exact HB.out)⟩⟩
  case round =>
    clear H'
    obtain ⟨x3_1, x4_1, rfl, HA, HK1, HO_3, HB⟩ := hrel
    cases gk with
    | zero => exact absurd HA.out (by simp [contraref03_Of.l0])
    | succ k1 =>
      have H := HA.out
      clear HA
      simp only [contraref03_Of.l0] at H
      by_cases c2 : x4_1 < (a0.size : Int)
      · rw [if_pos c2] at H
        have c2b0 : decide (x4_1 < (a0.size : Int)) = true := decide_eq_true c2
        clear c2
        have H' := Aside0.mk H
        clear H
        go_wp2
        go_loopg [3, 5] k1 (fun kq v3 v5 w' => ∃ (x3_2 : List Bool) (x5_2 : Int), v5 = .int .i64 x5_2 ∧ Aside0 (contraref03_Of.l1 kq a0 x3_2 x4_1 x5_2 = some r) ∧ Aside0 (kq ≤ k1) ∧ Aside0 (Kd.R Kd.bool 4 w' w.heap.size (fun _ => True) v3 x3_2) ∧ Aside0 (Below w.heap.size w w'))
        case atStart => exact ⟨(x3_1), (0), (by first | rfl | (simp; done) | (simp [*]; done)), H', ⟨Nat.le_refl _⟩, ⟨by (with_reducible repeat (first | apply Kd.R_alloc | apply Kd.R_drewN | apply Kd.R_drew)); exact HO_3.out⟩, ⟨by repeat (first | (with_reducible first | exact HB.out | apply below_alloc | apply pw_below_drewN | apply below_drew1) | exact HB.out)⟩⟩
        case round =>
          clear H'
          try clear c2
          try clear c2b0
          try clear p2
          obtain ⟨x3_2, x5_2, rfl, HA, HK2, HO_3, HB⟩ := hrel
          cases gk with
          | zero => exact absurd HA.out (by simp [contraref03_Of.l1])
          | succ k2 =>
            have H := HA.out
            clear HA
            simp only [contraref03_Of.l1] at H
            by_cases c3 : x5_2 < 8
            · rw [if_pos c3] at H
              have c3b0 : decide (x5_2 < 8) = true := decide_eq_true c3
              clear c3
              by_cases c4 : 0 ≤ x4_1
              · rw [if_pos c4] at H
                have c4b0 : decide (0 ≤ x4_1) = true := decide_eq_true c4
                clear c4
                by_cases c5 : x4_1 < (a0.size : Int)
                · rw [if_pos c5] at H
                  have c5b0 : decide (x4_1 < (a0.size : Int)) = true := decide_eq_true c5
                  clear c5
                  by_cases c7 : 0 ≤ x5_2
                  · rw [if_pos c7] at H
                    have c7b0 := eq_true c7
                    have c7b1 : decide (0 ≤ x5_2) = true := decide_eq_true c7
                    clear c7
                    obtain ⟨ji8, hji8⟩ : ∃ j_ : Int, (shr .u8 (bt a0 x4_1) x5_2) = j_ := ⟨_, rfl⟩
                    replace H : (if x3_2.length < 140737488355328 then (contraref03_Of.l1 k2 a0 (x3_2 ++ [((Int.tmod (ji8) 2) == 1)]) x4_1 (wrap64 (x5_2 + 1))) else (none)) = some r := by first | (rw [hji8] at H; exact H) | (simp only [hji8] at H ⊢; exact H)
                    have hji8_ : ((bt a0 x4_1) / 2 ^ min x5_2.toNat 8) = ji8 := hji8
                    have hji8z : x5_2 ≤ 8 → ((bt a0 x4_1) / 2 ^ x5_2.toNat) = ji8 := shr_small hji8
                    by_cases c9 : x3_2.length < 140737488355328
                    · rw [if_pos c9] at H
                      have LMc9 := Aside0.mk c9
                      clear c9
                      obtain ⟨y233, hy233⟩ : ∃ y_ : List Bool, y_ = (x3_2 ++ [((Int.tmod (ji8) 2) == 1)]) := ⟨_, rfl⟩
                      replace H : (contraref03_Of.l1 k2 a0 y233 x4_1 (wrap64 (x5_2 + 1))) = some r := by first | (rw [hy233]; with_reducible exact H) | (have H2_ := (Option.bind_some _ _).symm.trans H; rw [hy233]; with_reducible exact H2_) | (have H2_ := (Option.bind_some _ _).symm.trans H; with_reducible exact H2_) | with_reducible exact H | (rw [hy233]; exact H) | exact H
                      have Ny233 := Aside0.mk hy233
                      clear hy233
                      have H' := Aside0.mk H
                      clear H
                      have p6 : 0 ≤ (x4_1 : Int) := of_decide_eq_true (by first | (with_reducible assumption) | assumption)
                      have q6 : x4_1 < (a0.size : Int) := of_decide_eq_true (by first | (with_reducible assumption) | assumption)
                      have hx6 := bt_at a0 x4_1
                      replace p6 := eq_true p6
                      replace q6 := eq_true q6
                      go_wp2_with (first | ((with_reducible refine gate_builtin (b := .append) (xs := #[.tmp 23, .tmp 31]) rfl ?_); at_builtin; refine Kd.R_append Kd.bool (w0 := w) w.heap.size rfl (.tmp 23) (.tmp 31) 53 4 (.bool false) 1 rfl Try.underlying53 info4 rfl (by decide) (by omega) u3 x3_2 ((Int.tmod (ji8) 2) == 1) [.bool ((Int.tmod (ji8) 2) == 1)] (fun _ => True) (fun _ => False) rfl rfl ?aP (fun _ hk => hk.elim) ?aF ?aO ?aB ?aS ?aL ?_; (case aP => exact rfl); (case aB => exact (by repeat (first | (with_reducible first | exact HB.out | apply below_alloc | apply pw_below_drewN | apply below_drew1) | exact HB.out))); (case aF => exact (fun _ _ => trivial)); (case aO => exact (by (with_reducible repeat (first | apply Kd.R_alloc | apply Kd.R_drewN | apply Kd.R_drew)); exact HO_3.out)); (case aS => exact (below_size (by repeat (first | (with_reducible first | exact HB.out | apply below_alloc | apply pw_below_drewN | apply below_drew1) | exact HB.out)))); (case aL => have := LMc9.out; omega); intro v234 w10 ho hb hg hat; rw [← Ny233.out] at ho; have n0_ := Aside0.mk (hb); have n1_ := Aside0.mk (ho); clear HB; clear HO_3; have HB := n0_; have HO235 := n1_; clear n0_ n1_; clear ho hb hg hat))
                      go_roundg k2
                      case measure => have := HK1.out; have := HK2.out; omega
                      case rel => exact ⟨(y233), (wrap64 (x5_2 + 1)), (by first | rfl | (simp; done) | (simp [*]; done)), H', ⟨by have := HK1.out; have := HK2.out; omega⟩, ⟨by (with_reducible repeat (first | apply Kd.R_alloc | apply Kd.R_drewN | apply Kd.R_drew)); exact HO235.out⟩, ⟨by repeat (first | (with_reducible first | exact HB.out | apply below_alloc | apply pw_below_drewN | apply below_drew1) | exact HB.out)⟩⟩
                    · rw [if_neg c9] at H
                      exact absurd H (by simp)
                  · rw [if_neg c7] at H
                    exact absurd H (by simp)
                · rw [if_neg c5] at H
                  exact absurd H (by simp)
              · rw [if_neg c4] at H
                exact absurd H (by simp)
            · rw [if_neg c3] at H
              have c3b0 : decide (x5_2 < 8) = false := decide_eq_false c3
              clear c3
              have H' := Aside0.mk H
              clear H
              go_wp2
              go_roundg k2
              case measure => have := HK1.out; have := HK2.out; omega
              case rel => exact ⟨(x3_2), (wrap64 (x4_1 + 1)), (by first | rfl | (simp; done) | (simp [*]; done)), H', ⟨by have := HK1.out; have := HK2.out; omega⟩, ⟨by (with_reducible repeat (first | apply Kd.R_alloc | apply Kd.R_drewN | apply Kd.R_drew)); exact HO_3.out⟩, ⟨by repeat (first | (with_reducible first | exact HB.out | apply below_alloc | apply pw_below_drewN | apply below_drew1) | exact HB.out)⟩⟩
      · rw [if_neg c2] at H
        have c2b0 : decide (x4_1 < (a0.size : Int)) = false := decide_eq_false c2
        clear c2
        have H' := Aside0.mk H
        clear H
        go_wp2
        go_loopg [3, 6] k1 (fun kq v3 v6 w' => ∃ (x3_2 : List Bool) (x6_2 : Int), v6 = .int .i64 x6_2 ∧ Aside0 (contraref03_Of.l2 kq x3_2 x6_2 = some r) ∧ Aside0 (kq ≤ k1) ∧ Aside0 (Kd.R Kd.bool 4 w' w.heap.size (fun _ => True) v3 x3_2) ∧ Aside0 (Below w.heap.size w w'))
        case atStart => exact ⟨(x3_1), (0), (by first | rfl | (simp; done) | (simp [*]; done)), H', ⟨Nat.le_refl _⟩, ⟨by (with_reducible repeat (first | apply Kd.R_alloc | apply Kd.R_drewN | apply Kd.R_drew)); exact HO_3.out⟩, ⟨by repeat (first | (with_reducible first | exact HB.out | apply below_alloc | apply pw_below_drewN | apply below_drew1) | exact HB.out)⟩⟩
        case round =>
          clear H'
          try clear c2
          try clear c2b0
          try clear p2
          try clear c3
          try clear c3b0
          try clear c4
          try clear c4b0
          try clear c5
          try clear c5b0
          try clear p6
          try clear q6
          try clear hx6
          try clear c7
          try clear c7b0
          try clear c7b1
          try clear c9
          try clear p2
          try clear p6
          try clear q6
          obtain ⟨x3_2, x6_2, rfl, HA, HK2, HO_3, HB⟩ := hrel
          cases gk with
          | zero => exact absurd HA.out (by simp [contraref03_Of.l2])
          | succ k2 =>
            have H := HA.out
            clear HA
            simp only [contraref03_Of.l2] at H
            by_cases c11 : x6_2 < 32
            · rw [if_pos c11] at H
              have c11b0 : decide (x6_2 < 32) = true := decide_eq_true c11
              clear c11
              by_cases c12 : x3_2.length < 140737488355328
              · rw [if_pos c12] at H
                have LMc12 := Aside0.mk c12
                clear c12
                obtain ⟨y236, hy236⟩ : ∃ y_ : List Bool, y_ = (x3_2 ++ [false]) := ⟨_, rfl⟩
                replace H : (contraref03_Of.l2 k2 y236 (wrap64 (x6_2 + 1))) = some r := by first | (rw [hy236]; with_reducible exact H) | (have H2_ := (Option.bind_some _ _).symm.trans H; rw [hy236]; with_reducible exact H2_) | (have H2_ := (Option.bind_some _ _).symm.trans H; with_reducible exact H2_) | with_reducible exact H | (rw [hy236]; exact H) | exact H
                have Ny236 := Aside0.mk hy236
                clear hy236
                have H' := Aside0.mk H
                clear H
                go_wp2_with (first | ((with_reducible refine gate_builtin (b := .append) (xs := #[.tmp 37, .tmp 38]) rfl ?_); at_builtin; refine Kd.R_append Kd.bool (w0 := w) w.heap.size rfl (.tmp 37) (.tmp 38) 53 4 (.bool false) 1 rfl Try.underlying53 info4 rfl (by decide) (by omega) u3 x3_2 false [.bool false] (fun _ => True) (fun _ => False) rfl rfl ?aP (fun _ hk => hk.elim) ?aF ?aO ?aB ?aS ?aL ?_; (case aP => exact rfl); (case aB => exact (by repeat (first | (with_reducible first | exact HB.out | apply below_alloc | apply pw_below_drewN | apply below_drew1) | exact HB.out))); (case aF => exact (fun _ _ => trivial)); (case aO => exact (by (with_reducible repeat (first | apply Kd.R_alloc | apply Kd.R_drewN | apply Kd.R_drew)); exact HO_3.out)); (case aS => exact (below_size (by repeat (first | (with_reducible first | exact HB.out | apply below_alloc | apply pw_below_drewN | apply below_drew1) | exact HB.out)))); (case aL => have := LMc12.out; omega); intro v237 w13 ho hb hg hat; rw [← Ny236.out] at ho; have n0_ := Aside0.mk (hb); have n1_ := Aside0.mk (ho); clear HB; clear HO_3; have HB := n0_; have HO238 := n1_; clear n0_ n1_; clear ho hb hg hat))
                go_roundg k2
                case measure => have := HK1.out; have := HK2.out; omega
                case rel => exact ⟨(y236), (wrap64 (x6_2 + 1)), (by first | rfl | (simp; done) | (simp [*]; done)), H', ⟨by have := HK1.out; have := HK2.out; omega⟩, ⟨by (with_reducible repeat (first | apply Kd.R_alloc | apply Kd.R_drewN | apply Kd.R_drew)); exact HO238.out⟩, ⟨by repeat (first | (with_reducible first | exact HB.out | apply below_alloc | apply pw_below_drewN | apply below_drew1) | exact HB.out)⟩⟩
              · rw [if_neg c12] at H
                exact absurd H (by simp)
            · rw [if_neg c11] at H
              have c11b0 : decide (x6_2 < 32) = false := decide_eq_false c11
              clear c11
              have H' := Aside0.mk H
              clear H
              go_wp2
              go_loopg [7] k2 (fun kq v7 w' => ∃ (x3_3 : List Bool) (x7_3 : Int), v7 = .int .i64 x7_3 ∧ Aside0 (contraref03_Of.l3 kq x3_3 x7_3 = some r) ∧ Aside0 (kq ≤ k2) ∧ Aside0 (Kd.R Kd.bool 4 w' w.heap.size (fun _ => True) u3 x3_3) ∧ Aside0 (Below w.heap.size w w'))
              case atStart => exact ⟨(x3_2), (0), (by first | rfl | (simp; done) | (simp [*]; done)), H', ⟨Nat.le_refl _⟩, ⟨by (with_reducible repeat (first | apply Kd.R_alloc | apply Kd.R_drewN | apply Kd.R_drew)); exact HO_3.out⟩, ⟨by repeat (first | (with_reducible first | exact HB.out | apply below_alloc | apply pw_below_drewN | apply below_drew1) | exact HB.out)⟩⟩
              case round =>
                clear H'
                try clear c1
                try clear c2
                try clear c2b0
                try clear p2
                try clear c3
                try clear c3b0
                try clear c4
                try clear c4b0
                try clear c5
                try clear c5b0
                try clear p6
                try clear q6
                try clear hx6
                try clear c7
                try clear c7b0
                try clear c7b1
                try clear c9
                try clear c11
                try clear c11b0
                try clear c12
                try clear p2
                try clear p6
                try clear q6
                obtain ⟨x3_3, x7_3, rfl, HA, HK3, HO_3, HB⟩ := hrel
                cases gk with
                | zero => exact absurd HA.out (by simp [contraref03_Of.l3])
                | succ k3 =>
                  have H := HA.out
                  clear HA
                  simp only [contraref03_Of.l3] at H
                  by_cases c14 : x7_3 < 32
                  · rw [if_pos c14] at H
                    have c14b0 : decide (x7_3 < 32) = true := decide_eq_true c14
                    clear c14
                    by_cases c15 : 0 ≤ x7_3
                    · rw [if_pos c15] at H
                      have c15b0 : decide (0 ≤ x7_3) = true := decide_eq_true c15
                      clear c15
                      by_cases c16 : x7_3 < (x3_3.length : Int)
                      · rw [if_pos c16] at H
                        have c16b0 : decide (x7_3 < (x3_3.length : Int)) = true := decide_eq_true c16
                        clear c16
                        obtain ⟨y240, hy240⟩ : ∃ y_ : List Bool, y_ = (x3_3.set (x7_3 : Int).toNat (!(rdOf false x3_3 x7_3))) := ⟨_, rfl⟩
                        replace H : (contraref03_Of.l3 k3 y240 (wrap64 (x7_3 + 1))) = some r := by first | (rw [hy240]; with_reducible exact H) | (have H2_ := (Option.bind_some _ _).symm.trans H; rw [hy240]; with_reducible exact H2_) | (have H2_ := (Option.bind_some _ _).symm.trans H; with_reducible exact H2_) | with_reducible exact H | (rw [hy240]; exact H) | exact H
                        have Ny240 := Aside0.mk hy240
                        clear hy240
                        have H' := Aside0.mk H
                        clear H
                        obtain ⟨Ao18, co18, eo18⟩ := Kd.R_slice HO_3.out
                        subst eo18
                        have p239 : 0 ≤ (x7_3 : Int) := of_decide_eq_true (by first | (with_reducible assumption) | assumption)
                        have q239 : x7_3 < (x3_3.length : Int) := of_decide_eq_true (by first | (with_reducible assumption) | assumption)
                        obtain ⟨ad239, e239, hx239_0⟩ := Kd.at_bool (Kd.R_reads' HO_3.out).2.2 x7_3 p239 q239
                        cases e239
                        replace p239 := eq_true p239
                        replace q239 := eq_true q239
                        have p17 : 0 ≤ (x7_3 : Int) := of_decide_eq_true (by first | (with_reducible assumption) | assumption)
                        have q17 : (x7_3 : Int) < ((x3_3.length : Int) : Int) := of_decide_eq_true (by first | (with_reducible assumption) | assumption)
                        obtain ⟨go17, co17, eo17, gb17, gl17, cl17, HG17⟩ := Kd.R_form HO_3.out (by omega)
                        (first | cases eo17 | (injection eo17 with ea_ en_ ec_; (first | subst ea_ | (injection ea_ with ea_; subst ea_)); subst ec_; clear en_))
                        have GB17 := Aside0.mk gb17
                        have GG17 := Aside0.mk HG17
                        clear gb17 gl17 HG17
                        (first | simp only [add_plain] at hx239_0 | skip)
                        obtain ⟨hx17_0, hf17_0⟩ := Kd.R_celln false HO_3.out (x7_3 : Int) p17 q17
                        replace p17 := eq_true p17
                        replace q17 := eq_true q17
                        have HP19 := Kd.R_putg HO_3.out (x7_3 : Int) (!(rdOf false x3_3 x7_3))
                        go_wp2_with (first | ((with_reducible refine gate_store (t := 4) (p := 51) rfl ?_); refine store_event (t := 4) (p := 51) (v := ?vo_w20) (w1 := (wr.setCell ⟨go17, (x7_3 : Int).toNat, none⟩ (.bool (!(rdOf false x3_3 x7_3))))) ?hg ?ho ?hn ?hr ?_; (case ho => rfl); (case hg => rfl); (case hn => rfl); (case hr => first | (go_simp; done) | (go_simp; rfl)); intro w20 hw; have hg : wr.grownBy w20 (some go17) := (by rw [hw]; exact HP19.2); have hp_ : Kd.R Kd.bool 4 w20 w.heap.size (fun _ => True) (.slice (some ⟨go17, 0, none⟩) x3_3.length co18) y240 := (by rw [hw, Ny240.out]; exact HP19.1); clear HP19; have n0_ := Aside0.mk (hp_); have n1_ := Aside0.mk ((by rw [hw]; exact below_set (HB.out) GB17.out : Below w.heap.size w w20)); clear HO_3; clear HB; have HO_3 := n0_; have HB := n1_; clear n0_ n1_; clear hg hw hp_))
                        go_roundg k3
                        case measure => have := HK1.out; have := HK2.out; have := HK3.out; omega
                        case rel => exact ⟨(y240), (wrap64 (x7_3 + 1)), (by first | rfl | (simp; done) | (simp [*]; done)), H', ⟨by have := HK1.out; have := HK2.out; have := HK3.out; omega⟩, ⟨by (with_reducible repeat (first | apply Kd.R_alloc | apply Kd.R_drewN | apply Kd.R_drew)); exact HO_3.out⟩, ⟨by repeat (first | (with_reducible first | exact HB.out | apply below_alloc | apply pw_below_drewN | apply below_drew1) | exact HB.out)⟩⟩
                      · rw [if_neg c16] at H
                        exact absurd H (by simp)
                    · rw [if_neg c15] at H
                      exact absurd H (by simp)
                  · rw [if_neg c14] at H
                    have c14b0 : decide (x7_3 < 32) = false := decide_eq_false c14
                    clear c14
                    obtain ⟨y241, hy241⟩ : ∃ y_ : List Int, y_ = (([0, 6, 9, 10, 16, 20, 21, 22, 24, 25, 27, 28, 30, 31, 32] : List Int)) := ⟨_, rfl⟩
                    replace H : (contraref03_Of.l4 k3 x3_3 y241 0) = some r := by first | (rw [hy241]; with_reducible exact H) | (have H2_ := (Option.bind_some _ _).symm.trans H; rw [hy241]; with_reducible exact H2_) | (have H2_ := (Option.bind_some _ _).symm.trans H; with_reducible exact H2_) | with_reducible exact H | (rw [hy241]; exact H) | exact H
                    have Ny241 := Aside0.mk hy241
                    clear hy241
                    have H' := Aside0.mk H
                    clear H
                    go_wp2_with (first | ((with_reducible refine gate_dst (N := 52) rfl ?_); refine Kd.R_lit (Kd.int .i64) _ 3 ?hg (N := 52) ?hd (xs := ([0, 6, 9, 10, 16, 20, 21, 22, 24, 25, 27, 28, 30, 31, 32] : List Int)) (inner := [.int .i64 0, .int .i64 6, .int .i64 9, .int .i64 10, .int .i64 16, .int .i64 20, .int .i64 21, .int .i64 22, .int .i64 24, .int .i64 25, .int .i64 27, .int .i64 28, .int .i64 30, .int .i64 31, .int .i64 32]) (ok := fun _ => True) (okp := fun _ => True) ?hr ?hp (fun _ hk => hk) trivial (Below.refl _ _) (Nat.le_refl _) (by simp) ?_; (case hd => rfl); (case hg => rfl); (case hr => first | (go_simp; done) | (go_simp; rfl)); (case hp => exact (Reps.one (show Kd.M (Kd.int .i64) _ _ _ 0 [.int .i64 0] from rfl) (Reps.one (show Kd.M (Kd.int .i64) _ _ _ 6 [.int .i64 6] from rfl) (Reps.one (show Kd.M (Kd.int .i64) _ _ _ 9 [.int .i64 9] from rfl) (Reps.one (show Kd.M (Kd.int .i64) _ _ _ 10 [.int .i64 10] from rfl) (Reps.one (show Kd.M (Kd.int .i64) _ _ _ 16 [.int .i64 16] from rfl) (Reps.one (show Kd.M (Kd.int .i64) _ _ _ 20 [.int .i64 20] from rfl) (Reps.one (show Kd.M (Kd.int .i64) _ _ _ 21 [.int .i64 21] from rfl) (Reps.one (show Kd.M (Kd.int .i64) _ _ _ 22 [.int .i64 22] from rfl) (Reps.one (show Kd.M (Kd.int .i64) _ _ _ 24 [.int .i64 24] from rfl) (Reps.one (show Kd.M (Kd.int .i64) _ _ _ 25 [.int .i64 25] from rfl) (Reps.one (show Kd.M (Kd.int .i64) _ _ _ 27 [.int .i64 27] from rfl) (Reps.one (show Kd.M (Kd.int .i64) _ _ _ 28 [.int .i64 28] from rfl) (Reps.one (show Kd.M (Kd.int .i64) _ _ _ 30 [.int .i64 30] from rfl) (Reps.one (show Kd.M (Kd.int .i64) _ _ _ 31 [.int .i64 31] from rfl) (Reps.one (show Kd.M (Kd.int .i64) _ _ _ 32 [.int .i64 32] from rfl) (Reps.none _ _))))))))))))))))); intro v242 w21 ho22 hb hg_ hnew_; clear hg_ hnew_; (first | rw [← Ny241.out] at ho22 | (simp only [Int.reduceToNat] at ho22; rw [← Ny241.out] at ho22)); have n0_ := Aside0.mk (Kd.R_below (by (with_reducible repeat (first | apply Kd.R_alloc | apply Kd.R_drewN | apply Kd.R_drew)); exact HO_3.out) hb); have n1_ := Aside0.mk (Kd.R_lower ho22 (below_size (by repeat (first | (with_reducible first | exact HB.out | apply below_alloc | apply pw_below_drewN | apply below_drew1) | exact HB.out)))); have n2_ := Aside0.mk (below_step (by repeat (first | (with_reducible first | exact HB.out | apply below_alloc | apply pw_below_drewN | apply below_drew1) | exact HB.out)) hb); clear HO_3; clear HB; have HO_3 := n0_; have HO243 := n1_; have HB := n2_; clear n0_ n1_ n2_; clear hb ho22))
                    go_loopg [9] k3 (fun kq v9 w' => ∃ (x3_4 : List Bool) (x9_4 : Int), v9 = .int .i64 x9_4 ∧ Aside0 (contraref03_Of.l4 kq x3_4 y241 x9_4 = some r) ∧ Aside0 (kq ≤ k3) ∧ Aside0 (Kd.R Kd.bool 4 w' w.heap.size (fun _ => True) u3 x3_4) ∧ Aside0 (Kd.R (Kd.int .i64) 3 w' w.heap.size (fun _ => True) v242 y241) ∧ Aside0 (Below w.heap.size w w'))
                    case atStart => exact ⟨(x3_3), (0), (by first | rfl | (simp; done) | (simp [*]; done)), H', ⟨Nat.le_refl _⟩, ⟨by (with_reducible repeat (first | apply Kd.R_alloc | apply Kd.R_drewN | apply Kd.R_drew)); exact HO_3.out⟩, ⟨by (with_reducible repeat (first | apply Kd.R_alloc | apply Kd.R_drewN | apply Kd.R_drew)); exact HO243.out⟩, ⟨by repeat (first | (with_reducible first | exact HB.out | apply below_alloc | apply pw_below_drewN | apply below_drew1) | exact HB.out)⟩⟩
                    case round =>
                      clear H'
                      try clear c1
                      try clear p1
                      try clear q1
                      try clear hx1
                      try clear hf1
                      try clear c2
                      try clear c2b0
                      try clear p2
                      try clear q2
                      try clear hx2
                      try clear c3
                      try clear c3b0
                      try clear c4
                      try clear c4b0
                      try clear c5
                      try clear c5b0
                      try clear p6
                      try clear q6
                      try clear hx6
                      try clear c7
                      try clear c7b0
                      try clear c7b1
                      try clear c9
                      try clear c11
                      try clear c11b0
                      try clear c12
                      try clear c14
                      try clear c14b0
                      try clear c15
                      try clear c15b0
                      try clear c16
                      try clear c16b0
                      try clear p17
                      try clear q17
                      try clear hx17
                      try clear hf17
                      try clear hx17_0
                      try clear hx239_0
                      try clear p17
                      try clear p2
                      try clear p239
                      try clear p6
                      try clear q17
                      try clear q239
                      try clear q6
                      obtain ⟨x3_4, x9_4, rfl, HA, HK4, HO_3, HO_8, HB⟩ := hrel
                      cases gk with
                      | zero => exact absurd HA.out (by simp [contraref03_Of.l4])
                      | succ k4 =>
                        have H := HA.out
                        clear HA
                        simp only [contraref03_Of.l4] at H
                        by_cases c23 : (wrap64 (x9_4 + 32)) < (x3_4.length : Int)
                        · rw [if_pos c23] at H
                          have c23b0 : decide ((wrap64 (x9_4 + 32)) < (x3_4.length : Int)) = true := decide_eq_true c23
                          clear c23
                          by_cases c24 : 0 ≤ x9_4
                          · rw [if_pos c24] at H
                            have c24b0 : decide (0 ≤ x9_4) = true := decide_eq_true c24
                            clear c24
                            by_cases c25 : x9_4 < (x3_4.length : Int)
                            · rw [if_pos c25] at H
                              have c25b0 : decide (x9_4 < (x3_4.length : Int)) = true := decide_eq_true c25
                              clear c25
                              obtain ⟨bq26, hbq26⟩ : ∃ b_ : Bool, b_ = (rdOf false x3_4 x9_4) := ⟨_, rfl⟩
                              replace H : (if bq26 = true then (contraref03_Of.l5 k4 x3_4 y241 x9_4 0) else (contraref03_Of.l4 k4 x3_4 y241 (wrap64 (x9_4 + 1)))) = some r := by rw [← hbq26] at H; exact H
                              have Nbq26 := Aside0.mk hbq26
                              clear hbq26
                              by_cases c27 : bq26 = true
                              · subst c27
                                have H1 : (contraref03_Of.l5 k4 x3_4 y241 x9_4 0) = some r := by rw [if_pos rfl] at H; exact H
                                clear H
                                have H := H1
                                clear H1
                                have H' := Aside0.mk H
                                clear H
                                obtain ⟨Ao28, co28, eo28⟩ := Kd.R_slice HO_3.out
                                subst eo28
                                have p244 : 0 ≤ (x9_4 : Int) := of_decide_eq_true (by first | (with_reducible assumption) | assumption)
                                have q244 : x9_4 < (x3_4.length : Int) := of_decide_eq_true (by first | (with_reducible assumption) | assumption)
                                obtain ⟨go27, cx27, ex27, gb27, gl27, cl27, HG27⟩ := Kd.R_form HO_3.out (by omega)
                                injection ex27 with ea_ en_ ec_
                                subst ea_
                                subst ec_
                                clear gb27 gl27 HG27 en_
                                obtain ⟨ad244, e244, hx244_0⟩ := Kd.at_bool (Kd.R_reads' HO_3.out).2.2 x9_4 p244 q244
                                (try rw [← Nbq26.out] at hx244_0)
                                cases e244
                                simp only [add_plain] at hx244_0
                                replace p244 := eq_true p244
                                replace q244 := eq_true q244
                                go_wp2
                                go_loopg [10] k4 (fun kq v10 w' => ∃ (x3_5 : List Bool) (x10_5 : Int), v10 = .int .i64 x10_5 ∧ Aside0 (contraref03_Of.l5 kq x3_5 y241 x9_4 x10_5 = some r) ∧ Aside0 (kq ≤ k4) ∧ Aside0 (Kd.R Kd.bool 4 w' w.heap.size (fun _ => True) (.slice (some ⟨go27, 0, none⟩) x3_4.length co28) x3_5) ∧ Aside0 (Kd.R (Kd.int .i64) 3 w' w.heap.size (fun _ => True) v242 y241) ∧ Aside0 (Below w.heap.size w w'))
                                case atStart => exact ⟨(x3_4), (0), (by first | rfl | (simp; done) | (simp [*]; done)), H', ⟨Nat.le_refl _⟩, ⟨by (with_reducible repeat (first | apply Kd.R_alloc | apply Kd.R_drewN | apply Kd.R_drew)); exact HO_3.out⟩, ⟨by (with_reducible repeat (first | apply Kd.R_alloc | apply Kd.R_drewN | apply Kd.R_drew)); exact HO_8.out⟩, ⟨by repeat (first | (with_reducible first | exact HB.out | apply below_alloc | apply pw_below_drewN | apply below_drew1) | exact HB.out)⟩⟩
                                case round =>
                                  clear H'
                                  try clear c1
                                  try clear p1
                                  try clear q1
                                  try clear hx1
                                  try clear hf1
                                  try clear c2
                                  try clear c2b0
                                  try clear p2
                                  try clear q2
                                  try clear hx2
                                  try clear c3
                                  try clear c3b0
                                  try clear c4
                                  try clear c4b0
                                  try clear c5
                                  try clear c5b0
                                  try clear p6
                                  try clear q6
                                  try clear hx6
                                  try clear c7
                                  try clear c7b0
                                  try clear c7b1
                                  try clear c9
                                  try clear c11
                                  try clear c11b0
                                  try clear c12
                                  try clear c14
                                  try clear c14b0
                                  try clear c15
                                  try clear c15b0
                                  try clear c16
                                  try clear c16b0
                                  try clear p17
                                  try clear q17
                                  try clear hx17
                                  try clear hf17
                                  try clear c23
                                  try clear c23b0
                                  try clear p23
                                  try clear q23
                                  try clear hx23
                                  try clear c24
                                  try clear c24b0
                                  try clear p24
                                  try clear q24
                                  try clear hx24
                                  try clear c25
                                  try clear c25b0
                                  try clear q26
                                  try clear c27
                                  try clear hx17_0
                                  try clear hx239_0
                                  try clear hx244_0
                                  try clear p1
                                  try clear p17
                                  try clear p2
                                  try clear p239
                                  try clear p244
                                  try clear p6
                                  try clear q1
                                  try clear q17
                                  try clear q2
                                  try clear q239
                                  try clear q244
                                  try clear q6
                                  obtain ⟨x3_5, x10_5, rfl, HA, HK5, HO_3, HO_8, HB⟩ := hrel
                                  have hl3_5 := (Kd.R_reads' HO_3.out).1
                                  rw [hl3_5] at HO_3
                                  (try simp only [hl3_5])
                                  (try simp only [hl3_5] at HO_8)
                                  cases gk with
                                  | zero => exact absurd HA.out (by simp [contraref03_Of.l5])
                                  | succ k5 =>
                                    have H := HA.out
                                    clear HA
                                    simp only [contraref03_Of.l5] at H
                                    by_cases c29 : x10_5 < (y241.length : Int)
                                    · rw [if_pos c29] at H
                                      have c29b0 : decide (x10_5 < (y241.length : Int)) = true := decide_eq_true c29
                                      (try (have c29b0z := c29b0; simp only [hl3_5] at c29b0z))
                                      clear c29
                                      by_cases c30 : 0 ≤ x10_5
                                      · rw [if_pos c30] at H
                                        have c30b0 : decide (0 ≤ x10_5) = true := decide_eq_true c30
                                        clear c30
                                        obtain ⟨ji31, hji31⟩ : ∃ j_ : Int, (wrap64 (x9_4 + (rd y241 x10_5))) = j_ := ⟨_, rfl⟩
                                        replace H : (if 0 ≤ (ji31) then (if (ji31) < (x3_5.length : Int) then (contraref03_Of.l5 k5 (x3_5.set ((ji31) : Int).toNat (!(rdOf false x3_5 (ji31)))) y241 x9_4 (wrap64 (x10_5 + 1))) else (none)) else (none)) = some r := by first | (rw [hji31] at H; exact H) | (simp only [hji31] at H ⊢; exact H)
                                        have hji31w : (IntKind.i64.wrap (x9_4 + (rd y241 x10_5))) = ji31 := (i64_w _).trans hji31
                                        by_cases c32 : 0 ≤ (ji31)
                                        · rw [if_pos c32] at H
                                          have c32b0 : decide (0 ≤ (ji31)) = true := decide_eq_true c32
                                          clear c32
                                          by_cases c33 : (ji31) < (x3_5.length : Int)
                                          · rw [if_pos c33] at H
                                            have c33b0 : decide ((ji31) < (x3_5.length : Int)) = true := decide_eq_true c33
                                            (try (have c33b0z := c33b0; simp only [hl3_5] at c33b0z))
                                            clear c33
                                            obtain ⟨y248, hy248⟩ : ∃ y_ : List Bool, y_ = (x3_5.set ((ji31) : Int).toNat (!(rdOf false x3_5 (ji31)))) := ⟨_, rfl⟩
                                            replace H : (contraref03_Of.l5 k5 y248 y241 x9_4 (wrap64 (x10_5 + 1))) = some r := by first | (rw [hy248]; with_reducible exact H) | (have H2_ := (Option.bind_some _ _).symm.trans H; rw [hy248]; with_reducible exact H2_) | (have H2_ := (Option.bind_some _ _).symm.trans H; with_reducible exact H2_) | with_reducible exact H | (rw [hy248]; exact H) | exact H
                                            have Ny248 := Aside0.mk hy248
                                            clear hy248
                                            have H' := Aside0.mk H
                                            clear H
                                            obtain ⟨Ao35, co35, eo35⟩ := Kd.R_slice HO_8.out
                                            subst eo35
                                            try go_wp2
                                            have n0_ := Aside0.mk (Kd.R_drew HO_3.out)
                                            have n1_ := Aside0.mk (Kd.R_drew HO_8.out)
                                            have n2_ := Aside0.mk (below_drew1 HB.out)
                                            clear HO_3
                                            clear HO_8
                                            clear HB
                                            have HO_3 := n0_
                                            have HO_8 := n1_
                                            have HB := n2_
                                            clear n0_ n1_ n2_
                                            have p245 : 0 ≤ (x10_5 : Int) := of_decide_eq_true (by first | (with_reducible assumption) | assumption)
                                            have q245 : x10_5 < (y241.length : Int) := of_decide_eq_true (by first | (with_reducible assumption) | assumption)
                                            obtain ⟨ad245, e245, hx245_0⟩ := Kd.at_int (Kd.R_reads' HO_8.out).2.2 x10_5 p245 q245
                                            cases e245
                                            replace p245 := eq_true p245
                                            replace q245 := eq_true q245
                                            have p246 : 0 ≤ (x10_5 : Int) := of_decide_eq_true (by first | (with_reducible assumption) | assumption)
                                            have q246 : x10_5 < (y241.length : Int) := of_decide_eq_true (by first | (with_reducible assumption) | assumption)
                                            obtain ⟨ad246, e246, hx246_0⟩ := Kd.at_int (Kd.R_reads' HO_8.out).2.2 x10_5 p246 q246
                                            obtain rfl : ad245 = ad246 := (by injection e246)
                                            replace p246 := eq_true p246
                                            replace q246 := eq_true q246
                                            have p247 : 0 ≤ ((ji31) : Int) := of_decide_eq_true (by first | (with_reducible assumption) | assumption)
                                            have q247 : (ji31) < (x3_5.length : Int) := of_decide_eq_true (by first | (with_reducible assumption) | assumption)
                                            obtain ⟨ad247, e247, hx247_0⟩ := Kd.at_bool (Kd.R_reads' HO_3.out).2.2 (ji31) p247 q247
                                            (try rw [← Nbq26.out] at hx247_0)
                                            obtain rfl : ⟨go27, 0, none⟩ = ad247 := (by injection e247)
                                            replace p247 := eq_true p247
                                            replace q247 := eq_true q247
                                            have p34 : 0 ≤ ((ji31) : Int) := of_decide_eq_true (by first | (with_reducible assumption) | assumption)
                                            have q34 : ((ji31) : Int) < ((x3_5.length : Int) : Int) := of_decide_eq_true (by first | (with_reducible assumption) | assumption)
                                            obtain ⟨go34, co34, eo34, gb34, gl34, cl34, HG34⟩ := Kd.R_form HO_3.out (by omega)
                                            injection eo34 with ea_ en_ ec_; injection ea_ with ea_; injection ea_ with eg_; have eg_ := eg_.symm; subst eg_; subst ec_; clear en_
                                            have GB34 := Aside0.mk gb34
                                            have GG34 := Aside0.mk HG34
                                            clear gb34 gl34 HG34
                                            (first | simp only [add_plain] at hx247_0 | skip)
                                            obtain ⟨hx34_0, hf34_0⟩ := Kd.R_celln false HO_3.out ((ji31) : Int) p34 q34
                                            replace p34 := eq_true p34
                                            replace q34 := eq_true q34
                                            have HP37 := Kd.R_putn HO_3.out ((ji31) : Int) (!(rdOf false x3_5 (ji31)))
                                            rw [← Ny248.out] at HP37
                                            have HQ37 := Aside0.mk HP37
                                            clear HP37
                                            refine start_ (n := 19) (S := fun w' => w'.cell? (ad245.add (x10_5).toNat) = some (.int .i64 (rd y241 x10_5)) ∧ w'.cell? (ad245.add (x10_5).toNat) = some (.int .i64 (rd y241 x10_5)) ∧ w'.cell? ⟨go34, ((ji31)).toNat, none⟩ = some (.bool (rdOf false x3_5 (ji31)))) (ds := [18]) #[false, false, false, false, false, false, false, false, false, false, false, false, false, false, false, false, false, false, false] (by kernel_rfl) rfl rfl ⟨hx245_0, hx246_0, hx247_0⟩ (fun hHeld => ?_); refine with_tabW contraref03_Of.tab25 contraref03_Of.bits25 (fun HT_ HW_ => ?_)
                                            generalize wr.drew = w36 at HO_3 HO_8 HB GG34 HQ37 hf34_0 hx245_0 hx246_0 hx247_0 hx34_0 hHeld ⊢
                                            refine pure_ (i := 0) (N := some 70) (v := ?_) (a' := ?_) #[true, false, false, false, false, false, false, false, false, false, false, false, false, false, false, false, false, false, false] rfl rfl (any_of HT_.out (by kernel_rfl)) (fun _ _ _ h => h) (Or.inl ⟨by rfl, ?_⟩) ?_ ?_
                                            rotate_left
                                            · intro w'
                                              go_simp
                                              with_reducible rfl
                                            rotate_left
                                            · simp only [Act.put, List.setIfInBounds_toArray, List.set_cons_zero, List.set_cons_succ, i64_w, i32_w]
                                              rfl
                                            refine pure_ (i := 1) (N := some 71) (v := ?_) (a' := ?_) #[true, true, false, false, false, false, false, false, false, false, false, false, false, false, false, false, false, false, false] rfl rfl (any_of HT_.out (by kernel_rfl)) (fun _ _ _ h => h) (Or.inl ⟨by rfl, ?_⟩) ?_ ?_
                                            rotate_left
                                            · intro w'
                                              go_simp
                                              with_reducible rfl
                                            rotate_left
                                            · simp only [Act.put, List.setIfInBounds_toArray, List.set_cons_zero, List.set_cons_succ, i64_w, i32_w]
                                              rfl
                                            refine pure_ (i := 2) (N := some 72) (v := ?_) (a' := ?_) #[true, true, true, false, false, false, false, false, false, false, false, false, false, false, false, false, false, false, false] rfl rfl (any_of HT_.out (by kernel_rfl)) (fun _ _ _ h => h) (Or.inl ⟨by rfl, ?_⟩) ?_ ?_
                                            rotate_left
                                            · intro w'
                                              go_simp
                                              with_reducible rfl
                                            rotate_left
                                            · simp only [Act.put, List.setIfInBounds_toArray, List.set_cons_zero, List.set_cons_succ, i64_w, i32_w]
                                              rfl
                                            refine pure_ (i := 3) (N := some 73) (v := ?_) (a' := ?_) #[true, true, true, true, false, false, false, false, false, false, false, false, false, false, false, false, false, false, false] rfl rfl (any_of HT_.out (by kernel_rfl)) (fun _ _ _ h => h) (Or.inl ⟨by rfl, ?_⟩) ?_ ?_
                                            rotate_left
                                            · intro w'
                                              go_simp
                                              with_reducible rfl
                                            rotate_left
                                            · simp only [Act.put, List.setIfInBounds_toArray, List.set_cons_zero, List.set_cons_succ, i64_w, i32_w]
                                              rfl
                                            refine pure_ (i := 4) (N := some 74) (v := ?_) (a' := ?_) #[true, true, true, true, true, false, false, false, false, false, false, false, false, false, false, false, false, false, false] rfl rfl (any_of HT_.out (by kernel_rfl)) (fun _ _ _ h => h) (Or.inl ⟨by rfl, ?_⟩) ?_ ?_
                                            rotate_left
                                            · intro w'
                                              go_simp
                                              with_reducible rfl
                                            rotate_left
                                            · simp only [Act.put, List.setIfInBounds_toArray, List.set_cons_zero, List.set_cons_succ, i64_w, i32_w]
                                              rfl
                                            refine pure_ (i := 7) (N := some 77) (v := ?_) (a' := ?_) #[true, true, true, true, true, false, false, true, false, false, false, false, false, false, false, false, false, false, false] rfl rfl (any_of HT_.out (by kernel_rfl)) (fun _ _ _ h => h) (Or.inl ⟨by rfl, ?_⟩) ?_ ?_
                                            rotate_left
                                            · intro w'
                                              go_simp
                                              with_reducible rfl
                                            rotate_left
                                            · simp only [Act.put, List.setIfInBounds_toArray, List.set_cons_zero, List.set_cons_succ, i64_w, i32_w]
                                              rfl
                                            refine pure_ (i := 8) (N := some 78) (v := ?_) (a' := ?_) #[true, true, true, true, true, false, false, true, true, false, false, false, false, false, false, false, false, false, false] rfl rfl (any_of HT_.out (by kernel_rfl)) (fun _ _ _ h => h) (Or.inl ⟨by rfl, ?_⟩) ?_ ?_
                                            rotate_left
                                            · intro w'
                                              go_simp
                                              with_reducible rfl
                                            rotate_left
                                            · simp only [Act.put, List.setIfInBounds_toArray, List.set_cons_zero, List.set_cons_succ, i64_w, i32_w]
                                              rfl
                                            refine pure_ (i := 9) (N := some 79) (v := ?_) (a' := ?_) #[true, true, true, true, true, false, false, true, true, true, false, false, false, false, false, false, false, false, false] rfl rfl (any_of HT_.out (by kernel_rfl)) (fun _ _ _ h => h) (Or.inl ⟨by rfl, ?_⟩) ?_ ?_
                                            rotate_left
                                            · intro w'
                                              go_simp
                                              with_reducible rfl
                                            rotate_left
                                            · simp only [Act.put, List.setIfInBounds_toArray, List.set_cons_zero, List.set_cons_succ, i64_w, i32_w]
                                              rfl
                                            refine pure_ (i := 10) (N := some 80) (v := ?_) (a' := ?_) #[true, true, true, true, true, false, false, true, true, true, true, false, false, false, false, false, false, false, false] rfl rfl (any_of HT_.out (by kernel_rfl)) (fun _ _ _ h => h) (Or.inl ⟨by rfl, ?_⟩) ?_ ?_
                                            rotate_left
                                            · intro w'
                                              go_simp
                                              with_reducible rfl
                                            rotate_left
                                            · simp only [Act.put, List.setIfInBounds_toArray, List.set_cons_zero, List.set_cons_succ, i64_w, i32_w]
                                              rfl
                                            refine pure_ (i := 11) (N := some 81) (v := ?_) (a' := ?_) #[true, true, true, true, true, false, false, true, true, true, true, true, false, false, false, false, false, false, false] rfl rfl (any_of HT_.out (by kernel_rfl)) (fun _ _ _ h => h) (Or.inl ⟨by rfl, ?_⟩) ?_ ?_
                                            rotate_left
                                            · intro w'
                                              go_simp
                                              with_reducible rfl
                                            rotate_left
                                            · simp only [Act.put, List.setIfInBounds_toArray, List.set_cons_zero, List.set_cons_succ, i64_w, i32_w]
                                              rfl
                                            refine take_ (i := 5) (N := some 75) (v := ?_) (a' := ?_) #[true, true, true, true, true, true, false, true, true, true, true, true, false, false, false, false, false, false, false] rfl rfl (take_ofW HT_.out HW_.out (by kernel_rfl)) (fun _ _ _ h => h) (Or.inl ⟨by rfl, ?_⟩) hHeld ?_ ?_
                                            rotate_left
                                            · rintro w' ⟨s0, s1, s2⟩
                                              go_simp
                                              with_reducible rfl
                                            rotate_left
                                            · simp only [Act.put, List.setIfInBounds_toArray, List.set_cons_zero, List.set_cons_succ, i64_w, i32_w]
                                              rfl
                                            refine pure_ (i := 6) (N := some 76) (v := ?_) (a' := ?_) #[true, true, true, true, true, true, true, true, true, true, true, true, false, false, false, false, false, false, false] rfl rfl (any_of HT_.out (by kernel_rfl)) (fun _ _ _ h => h) (Or.inl ⟨by rfl, ?_⟩) ?_ ?_
                                            rotate_left
                                            · intro w'
                                              go_simp
                                              with_reducible rfl
                                            rotate_left
                                            · simp only [Act.put, List.setIfInBounds_toArray, List.set_cons_zero, List.set_cons_succ, i64_w, i32_w]
                                              rfl
                                            refine take_ (i := 12) (N := some 82) (v := ?_) (a' := ?_) #[true, true, true, true, true, true, true, true, true, true, true, true, true, false, false, false, false, false, false] rfl rfl (take_ofW HT_.out HW_.out (by kernel_rfl)) (fun _ _ _ h => h) (Or.inl ⟨by rfl, ?_⟩) hHeld ?_ ?_
                                            rotate_left
                                            · rintro w' ⟨s0, s1, s2⟩
                                              go_simp
                                              with_reducible rfl
                                            rotate_left
                                            · simp only [Act.put, List.setIfInBounds_toArray, List.set_cons_zero, List.set_cons_succ, i64_w, i32_w]
                                              rfl
                                            refine pure_ (i := 13) (N := some 83) (v := ?_) (a' := ?_) #[true, true, true, true, true, true, true, true, true, true, true, true, true, true, false, false, false, false, false] rfl rfl (any_of HT_.out (by kernel_rfl)) (fun _ _ _ h => h) (Or.inl ⟨by rfl, ?_⟩) ?_ ?_
                                            rotate_left
                                            · intro w'
                                              go_simp
                                              with_reducible rfl
                                            rotate_left
                                            · simp only [Act.put, List.setIfInBounds_toArray, List.set_cons_zero, List.set_cons_succ, i64_w, i32_w]
                                              rfl
                                            refine pure_ (i := 14) (N := some 84) (v := ?_) (a' := ?_) #[true, true, true, true, true, true, true, true, true, true, true, true, true, true, true, false, false, false, false] rfl rfl (any_of HT_.out (by kernel_rfl)) (fun _ _ _ h => h) (Or.inl ⟨by rfl, ?_⟩) ?_ ?_
                                            rotate_left
                                            · intro w'
                                              go_simp
                                              with_reducible rfl
                                            rotate_left
                                            · simp only [Act.put, List.setIfInBounds_toArray, List.set_cons_zero, List.set_cons_succ, i64_w, i32_w]
                                              rfl
                                            refine take_ (i := 15) (N := some 85) (v := ?_) (a' := ?_) #[true, true, true, true, true, true, true, true, true, true, true, true, true, true, true, true, false, false, false] rfl rfl (take_ofW HT_.out HW_.out (by kernel_rfl)) (fun _ _ _ h => h) (Or.inl ⟨by rfl, ?_⟩) hHeld ?_ ?_
                                            rotate_left
                                            · rintro w' ⟨s0, s1, s2⟩
                                              go_simp
                                              with_reducible rfl
                                            rotate_left
                                            · simp only [Act.put, List.setIfInBounds_toArray, List.set_cons_zero, List.set_cons_succ, i64_w, i32_w]
                                              rfl
                                            refine pure_ (i := 16) (N := some 86) (v := ?_) (a' := ?_) #[true, true, true, true, true, true, true, true, true, true, true, true, true, true, true, true, true, false, false] rfl rfl (any_of HT_.out (by kernel_rfl)) (fun _ _ _ h => h) (Or.inl ⟨by rfl, ?_⟩) ?_ ?_
                                            rotate_left
                                            · intro w'
                                              go_simp
                                              with_reducible rfl
                                            rotate_left
                                            · simp only [Act.put, List.setIfInBounds_toArray, List.set_cons_zero, List.set_cons_succ, i64_w, i32_w]
                                              rfl
                                            refine pure_ (i := 17) (N := some 87) (v := ?_) (a' := ?_) #[true, true, true, true, true, true, true, true, true, true, true, true, true, true, true, true, true, true, false] rfl rfl (any_of HT_.out (by kernel_rfl)) (fun _ _ _ h => h) (Or.inl ⟨by rfl, ?_⟩) ?_ ?_
                                            rotate_left
                                            · intro w'
                                              go_simp
                                              with_reducible rfl
                                            rotate_left
                                            · simp only [Act.put, List.setIfInBounds_toArray, List.set_cons_zero, List.set_cons_succ, i64_w, i32_w]
                                              rfl
                                            refine last_ (i := 18) (N := none) #[true, true, true, true, true, true, true, true, true, true, true, true, true, true, true, true, true, true, true] rfl rfl (one_of HT_.out (by kernel_rfl)) (by decide) (fun K hK => ?_)
                                            refine skip_ (w1 := ?_) (by rfl) rfl ?_ ?_
                                            rotate_left
                                            · go_simp
                                              rfl
                                            refine hK.out _ _ ?_
                                            clear hK K
                                            refine done_ (done_of HT_.out (by kernel_rfl)) ?_
                                            try go_wp2
                                            (try simp only [← hl3_5])
                                            go_roundg k5
                                            case measure => have := HK1.out; have := HK2.out; have := HK3.out; have := HK4.out; have := HK5.out; omega
                                            case rel => exact ⟨(y248), (wrap64 (x10_5 + 1)), (by first | rfl | (simp; done) | (simp [*]; done)), H', ⟨by have := HK1.out; have := HK2.out; have := HK3.out; have := HK4.out; have := HK5.out; omega⟩, ⟨by (try simp only [hl3_5]); (with_reducible repeat (first | apply Kd.R_alloc | apply Kd.R_drewN | apply Kd.R_drew)); exact HQ37.out⟩, ⟨by (try simp only [hl3_5]); (with_reducible repeat (first | apply Kd.R_alloc | apply Kd.R_drewN | apply Kd.R_drew)); exact Kd.R_mono (Kd.R_far (p := ⟨go34, ((ji31) : Int).toNat, none⟩) (Kd.R_types HO_8.out GG34.out (by decide)) (fun _ hk => hk.2) (.bool (!(rdOf false x3_5 (ji31))))) (fun _ hk => trivial)⟩, ⟨by repeat (first | (with_reducible first | exact HB.out | apply below_alloc | apply pw_below_drewN | apply below_drew1 | refine below_set ?_ GB34.out) | exact HB.out)⟩⟩
                                          · rw [if_neg c33] at H
                                            exact absurd H (by simp)
                                        · rw [if_neg c32] at H
                                          exact absurd H (by simp)
                                      · rw [if_neg c30] at H
                                        exact absurd H (by simp)
                                    · rw [if_neg c29] at H
                                      have c29b0 : decide (x10_5 < (y241.length : Int)) = false := decide_eq_false c29
                                      (try (have c29b0z := c29b0; simp only [hl3_5] at c29b0z))
                                      clear c29
                                      have H' := Aside0.mk H
                                      clear H
                                      obtain ⟨Ao38, co38, eo38⟩ := Kd.R_slice HO_8.out
                                      subst eo38
                                      go_wp2
                                      (try simp only [← hl3_5])
                                      go_roundg k5
                                      case measure => have := HK1.out; have := HK2.out; have := HK3.out; have := HK4.out; have := HK5.out; omega
                                      case rel => exact ⟨(x3_5), (wrap64 (x9_4 + 1)), (by first | rfl | (simp; done) | (simp [*]; done)), H', ⟨by have := HK1.out; have := HK2.out; have := HK3.out; have := HK4.out; have := HK5.out; omega⟩, ⟨by (try simp only [hl3_5]); (with_reducible repeat (first | apply Kd.R_alloc | apply Kd.R_drewN | apply Kd.R_drew)); exact HO_3.out⟩, ⟨by (try simp only [hl3_5]); (with_reducible repeat (first | apply Kd.R_alloc | apply Kd.R_drewN | apply Kd.R_drew)); exact HO_8.out⟩, ⟨by repeat (first | (with_reducible first | exact HB.out | apply below_alloc | apply pw_below_drewN | apply below_drew1) | exact HB.out)⟩⟩
                              · replace c27 := Bool.eq_false_iff.mpr c27
                                subst c27
                                have H1 : (contraref03_Of.l4 k4 x3_4 y241 (wrap64 (x9_4 + 1))) = some r := by rw [if_neg (show ¬ (false = true) by decide)] at H; exact H
                                clear H
                                have H := H1
                                clear H1
                                have H' := Aside0.mk H
                                clear H
                                obtain ⟨Ao39, co39, eo39⟩ := Kd.R_slice HO_3.out
                                subst eo39
                                have p244 : 0 ≤ (x9_4 : Int) := of_decide_eq_true (by first | (with_reducible assumption) | assumption)
                                have q244 : x9_4 < (x3_4.length : Int) := of_decide_eq_true (by first | (with_reducible assumption) | assumption)
                                obtain ⟨ad244, e244, hx244_0⟩ := Kd.at_bool (Kd.R_reads' HO_3.out).2.2 x9_4 p244 q244
                                (try rw [← Nbq26.out] at hx244_0)
                                cases e244
                                replace p244 := eq_true p244
                                replace q244 := eq_true q244
                                go_wp2
                                go_roundg k4
                                case measure => have := HK1.out; have := HK2.out; have := HK3.out; have := HK4.out; omega
                                case rel => exact ⟨(x3_4), (wrap64 (x9_4 + 1)), (by first | rfl | (simp; done) | (simp [*]; done)), H', ⟨by have := HK1.out; have := HK2.out; have := HK3.out; have := HK4.out; omega⟩, ⟨by (with_reducible repeat (first | apply Kd.R_alloc | apply Kd.R_drewN | apply Kd.R_drew)); exact HO_3.out⟩, ⟨by (with_reducible repeat (first | apply Kd.R_alloc | apply Kd.R_drewN | apply Kd.R_drew)); exact HO_8.out⟩, ⟨by repeat (first | (with_reducible first | exact HB.out | apply below_alloc | apply pw_below_drewN | apply below_drew1) | exact HB.out)⟩⟩
                            · rw [if_neg c25] at H
                              exact absurd H (by simp)
                          · rw [if_neg c24] at H
                            exact absurd H (by simp)
                        · rw [if_neg c23] at H
                          have c23b0 : decide ((wrap64 (x9_4 + 32)) < (x3_4.length : Int)) = false := decide_eq_false c23
                          clear c23
                          have H' := Aside0.mk H
                          clear H
                          obtain ⟨Ao40, co40, eo40⟩ := Kd.R_slice HO_3.out
                          subst eo40
                          go_wp2
                          go_loopg [11, 12] k4 (fun kq v11 v12 w' => ∃ (x11_5 : Int) (x12_5 : Int), v11 = .int .i64 x11_5 ∧ v12 = .int .i64 x12_5 ∧ Aside0 (contraref03_Of.l6 kq x3_4 x11_5 x12_5 = some r) ∧ Aside0 (kq ≤ k4) ∧ Aside0 (Kd.R Kd.bool 4 w' w.heap.size (fun _ => True) (.slice Ao40 x3_4.length co40) x3_4) ∧ Aside0 (Below w.heap.size w w'))
                          case atStart => exact ⟨(0), (0), (by first | rfl | (simp; done) | (simp [*]; done)), (by first | rfl | (simp; done) | (simp [*]; done)), H', ⟨Nat.le_refl _⟩, ⟨by (with_reducible repeat (first | apply Kd.R_alloc | apply Kd.R_drewN | apply Kd.R_drew)); exact HO_3.out⟩, ⟨by repeat (first | (with_reducible first | exact HB.out | apply below_alloc | apply pw_below_drewN | apply below_drew1) | exact HB.out)⟩⟩
                          case round =>
                            clear H'
                            try clear c1
                            try clear p1
                            try clear q1
                            try clear hx1
                            try clear hf1
                            try clear c2
                            try clear c2b0
                            try clear p2
                            try clear q2
                            try clear hx2
                            try clear c3
                            try clear c3b0
                            try clear p3
                            try clear q3
                            try clear hx3
                            try clear hf3
                            try clear c4
                            try clear c4b0
                            try clear c5
                            try clear c5b0
                            try clear p6
                            try clear q6
                            try clear hx6
                            try clear c7
                            try clear c7b0
                            try clear c7b1
                            try clear c9
                            try clear c11
                            try clear c11b0
                            try clear c12
                            try clear c14
                            try clear c14b0
                            try clear c15
                            try clear c15b0
                            try clear c16
                            try clear c16b0
                            try clear p17
                            try clear q17
                            try clear hx17
                            try clear hf17
                            try clear c23
                            try clear c23b0
                            try clear p23
                            try clear q23
                            try clear hx23
                            try clear c24
                            try clear c24b0
                            try clear p24
                            try clear q24
                            try clear hx24
                            try clear c25
                            try clear c25b0
                            try clear q26
                            try clear c27
                            try clear c29
                            try clear c29b0
                            try clear c30
                            try clear c30b0
                            try clear c32
                            try clear c32b0
                            try clear c33
                            try clear c33b0
                            try clear p34
                            try clear q34
                            try clear hx34
                            try clear hf34
                            try clear hx17_0
                            try clear hx239_0
                            try clear hx244_0
                            try clear hx245_0
                            try clear hx246_0
                            try clear hx247_0
                            try clear hx34_0
                            try clear p1
                            try clear p17
                            try clear p2
                            try clear p23
                            try clear p239
                            try clear p24
                            try clear p244
                            try clear p245
                            try clear p246
                            try clear p247
                            try clear p34
                            try clear p6
                            try clear q1
                            try clear q17
                            try clear q2
                            try clear q23
                            try clear q239
                            try clear q24
                            try clear q244
                            try clear q245
                            try clear q246
                            try clear q247
                            try clear q26
                            try clear q34
                            try clear q6
                            obtain ⟨x11_5, x12_5, rfl, rfl, HA, HK5, HO_3, HB⟩ := hrel
                            cases gk with
                            | zero => exact absurd HA.out (by simp [contraref03_Of.l6])
                            | succ k5 =>
                              have H := HA.out
                              clear HA
                              simp only [contraref03_Of.l6] at H
                              by_cases c41 : x12_5 < 32
                              · rw [if_pos c41] at H
                                have c41b0 : decide (x12_5 < 32) = true := decide_eq_true c41
                                clear c41
                                obtain ⟨ji42, hji42⟩ : ∃ j_ : Int, (wrap64 ((wrap64 ((x3_4.length : Int) - 32)) + x12_5)) = j_ := ⟨_, rfl⟩
                                replace H : (if 0 ≤ (ji42) then (if (ji42) < (x3_4.length : Int) then (if (rdOf false x3_4 (ji42) = true) then (contraref03_Of.l6 k5 x3_4 x11_5 (wrap64 (x12_5 + 1))) else (if 0 ≤ x12_5 then (contraref03_Of.l6 k5 x3_4 (wrap64 (x11_5 + (shl .i64 1 x12_5))) (wrap64 (x12_5 + 1))) else (none))) else (none)) else (none)) = some r := by first | (rw [hji42] at H; exact H) | (simp only [hji42] at H ⊢; exact H)
                                have hji42w : (IntKind.i64.wrap ((wrap64 ((x3_4.length : Int) - 32)) + x12_5)) = ji42 := (i64_w _).trans hji42
                                by_cases c43 : 0 ≤ (ji42)
                                · rw [if_pos c43] at H
                                  have c43b0 : decide (0 ≤ (ji42)) = true := decide_eq_true c43
                                  clear c43
                                  by_cases c44 : (ji42) < (x3_4.length : Int)
                                  · rw [if_pos c44] at H
                                    have c44b0 : decide ((ji42) < (x3_4.length : Int)) = true := decide_eq_true c44
                                    clear c44
                                    obtain ⟨bq45, hbq45⟩ : ∃ b_ : Bool, b_ = (rdOf false x3_4 (ji42)) := ⟨_, rfl⟩
                                    replace H : (if (bq45 = true) then (contraref03_Of.l6 k5 x3_4 x11_5 (wrap64 (x12_5 + 1))) else (if 0 ≤ x12_5 then (contraref03_Of.l6 k5 x3_4 (wrap64 (x11_5 + (shl .i64 1 x12_5))) (wrap64 (x12_5 + 1))) else (none))) = some r := by rw [← hbq45] at H; exact H
                                    have Nbq45 := Aside0.mk hbq45
                                    clear hbq45
                                    by_cases c46 : (bq45 = true)
                                    · subst c46
                                      have H1 : (contraref03_Of.l6 k5 x3_4 x11_5 (wrap64 (x12_5 + 1))) = some r := by rw [if_pos rfl] at H; exact H
                                      clear H
                                      have H := H1
                                      clear H1
                                      have H' := Aside0.mk H
                                      clear H
                                      have p249 : 0 ≤ ((ji42) : Int) := of_decide_eq_true (by first | (with_reducible assumption) | assumption)
                                      have q249 : (ji42) < (x3_4.length : Int) := of_decide_eq_true (by first | (with_reducible assumption) | assumption)
                                      obtain ⟨ad249, e249, hx249_0⟩ := Kd.at_bool (Kd.R_reads' HO_3.out).2.2 (ji42) p249 q249
                                      (try rw [← Nbq45.out] at hx249_0)
                                      cases e249
                                      replace p249 := eq_true p249
                                      replace q249 := eq_true q249
                                      go_wp2
                                      go_roundg k5
                                      case measure => have := HK1.out; have := HK2.out; have := HK3.out; have := HK4.out; have := HK5.out; omega
                                      case rel => exact ⟨(x11_5), (wrap64 (x12_5 + 1)), (by first | rfl | (simp; done) | (simp [*]; done)), (by first | rfl | (simp; done) | (simp [*]; done)), H', ⟨by have := HK1.out; have := HK2.out; have := HK3.out; have := HK4.out; have := HK5.out; omega⟩, ⟨by (with_reducible repeat (first | apply Kd.R_alloc | apply Kd.R_drewN | apply Kd.R_drew)); exact HO_3.out⟩, ⟨by repeat (first | (with_reducible first | exact HB.out | apply below_alloc | apply pw_below_drewN | apply below_drew1) | exact HB.out)⟩⟩
                                    · replace c46 := Bool.eq_false_iff.mpr c46
                                      subst c46
                                      have H1 : (if 0 ≤ x12_5 then (contraref03_Of.l6 k5 x3_4 (wrap64 (x11_5 + (shl .i64 1 x12_5))) (wrap64 (x12_5 + 1))) else (none)) = some r := by rw [if_neg (show ¬ (false = true) by decide)] at H; exact H
                                      clear H
                                      have H := H1
                                      clear H1
                                      by_cases c47 : 0 ≤ x12_5
                                      · rw [if_pos c47] at H
                                        have c47b0 := eq_true c47
                                        have c47b1 : decide (0 ≤ x12_5) = true := decide_eq_true c47
                                        clear c47
                                        obtain ⟨ji48, hji48⟩ : ∃ j_ : Int, (shl .i64 1 x12_5) = j_ := ⟨_, rfl⟩
                                        replace H : (contraref03_Of.l6 k5 x3_4 (wrap64 (x11_5 + (ji48))) (wrap64 (x12_5 + 1))) = some r := by first | (rw [hji48] at H; exact H) | (simp only [hji48] at H ⊢; exact H)
                                        have hji48_ : (IntKind.i64.wrap (1 * 2 ^ min x12_5.toNat 64)) = ji48 := hji48
                                        have hji48z : x12_5 ≤ 64 → (IntKind.i64.wrap (1 * 2 ^ x12_5.toNat)) = ji48 := shl_small hji48
                                        have hji48u : (IntKind.i64.wrap (2 ^ min x12_5.toNat 64)) = ji48 := by have h_ := hji48_; rw [Int.one_mul] at h_; exact h_
                                        have hji48v : x12_5 ≤ 64 → (IntKind.i64.wrap (2 ^ x12_5.toNat)) = ji48 := fun hle_ => by have h_ := hji48z hle_; rw [Int.one_mul] at h_; exact h_
                                        have hji48y : (wrap64 (1 * 2 ^ min x12_5.toNat 64)) = ji48 := (i64_w _).symm.trans hji48_
                                        have hji48x : x12_5 ≤ 64 → (wrap64 (1 * 2 ^ x12_5.toNat)) = ji48 := fun h_ => (i64_w _).symm.trans (hji48z h_)
                                        have H' := Aside0.mk H
                                        clear H
                                        have p249 : 0 ≤ ((ji42) : Int) := of_decide_eq_true (by first | (with_reducible assumption) | assumption)
                                        have q249 : (ji42) < (x3_4.length : Int) := of_decide_eq_true (by first | (with_reducible assumption) | assumption)
                                        obtain ⟨ad249, e249, hx249_0⟩ := Kd.at_bool (Kd.R_reads' HO_3.out).2.2 (ji42) p249 q249
                                        (try rw [← Nbq45.out] at hx249_0)
                                        cases e249
                                        replace p249 := eq_true p249
                                        replace q249 := eq_true q249
                                        go_wp2
                                        go_roundg k5
                                        case measure => have := HK1.out; have := HK2.out; have := HK3.out; have := HK4.out; have := HK5.out; omega
                                        case rel => exact ⟨(wrap64 (x11_5 + (ji48))), (wrap64 (x12_5 + 1)), (by first | rfl | (simp; done) | (simp only [← hji48] <;> (first | rfl | simp)) | (simp [*]; done)), (by first | rfl | (simp; done) | (simp [*]; done)), H', ⟨by have := HK1.out; have := HK2.out; have := HK3.out; have := HK4.out; have := HK5.out; omega⟩, ⟨by (with_reducible repeat (first | apply Kd.R_alloc | apply Kd.R_drewN | apply Kd.R_drew)); exact HO_3.out⟩, ⟨by repeat (first | (with_reducible first | exact HB.out | apply below_alloc | apply pw_below_drewN | apply below_drew1) | exact HB.out)⟩⟩
                                      · rw [if_neg c47] at H
                                        exact absurd H (by simp)
                                  · rw [if_neg c44] at H
                                    exact absurd H (by simp)
                                · rw [if_neg c43] at H
                                  exact absurd H (by simp)
                              · rw [if_neg c41] at H
                                have c41b0 : decide (x12_5 < 32) = false := decide_eq_false c41
                                clear c41
                                obtain rfl := Option.some.inj H
                                go_wp2
                                go_ret
                                exact ⟨by first | rfl | (simp [errW_none, errW_some] <;> rfl) | (simp [*, errW_none, errW_some] <;> rfl), by repeat (first | (with_reducible first | exact HB.out | apply below_alloc | apply pw_below_drewN | apply below_drew1) | exact HB.out)⟩

end Go.Proofs.Ythpdmjpimeibnaa.M
