/- Written by a program of this session (a turned copy of the printer: wip/turnprint.py): for each Go function a plain one, and the walk that shows that the code comes to just its answers. -/
import Derived.Test.YtianljjmnpdkcaaMx0
namespace Go.Proofs.Ytianljjmnpdkcaa.M
open Go.RowKit Go.Proofs.YtianljjmnpdkcaaW.PrintWords Go.Proofs.YtianljjmnpdkcaaW.PrintLast Go.Proofs.YtianljjmnpdkcaaW.PrintMore
attribute [local go_sem] max2_int min2_int max_two min_two max_three min_three max_four min_four   -- for this text's walks alone
set_option linter.unusedVariables false
set_option linter.unusedSimpArgs false

/-! ### item_Check: function 6 -/
mutual
def item_Check.j0 : Nat → Bool → Int → Int → Int → Int → Int → Int → Int → Int → Option (Int)
  | 0, _, _, _, _, _, _, _, _, _ => none
  | k + 1, x3, x103000, x103001, x103002, x103003, x103004, x103005, x103006, x103007 => if x3 = true then (item_Check.j1 k x3 x103000 x103001 x103002 x103003 x103004 x103005 x103006 x103007) else (if x103002 < 0 then (item_Check.j1 k true x103000 x103001 x103002 x103003 x103004 x103005 x103006 x103007) else (if x103002 ≥ 8 then (item_Check.j1 k (decide (x103002 ≥ 8)) x103000 x103001 x103002 x103003 x103004 x103005 x103006 x103007) else (item_Check.j1 k (x103002 == x103000) x103000 x103001 x103002 x103003 x103004 x103005 x103006 x103007)))
def item_Check.j1 : Nat → Bool → Int → Int → Int → Int → Int → Int → Int → Int → Option (Int)
  | 0, _, _, _, _, _, _, _, _, _ => none
  | k + 1, x3, x103000, x103001, x103002, x103003, x103004, x103005, x103006, x103007 => if x3 = true then (some 1) else (if x103001 < 1 then (item_Check.j2 k true x103000 x103001 x103002 x103003 x103004 x103005 x103006 x103007) else (item_Check.j2 k (decide (x103001 > 1048576)) x103000 x103001 x103002 x103003 x103004 x103005 x103006 x103007))
def item_Check.j2 : Nat → Bool → Int → Int → Int → Int → Int → Int → Int → Int → Option (Int)
  | 0, _, _, _, _, _, _, _, _, _ => none
  | k + 1, x28, x103000, x103001, x103002, x103003, x103004, x103005, x103006, x103007 => if x28 = true then (item_Check.j3 k x28 x103000 x103001 x103002 x103003 x103004 x103005 x103006 x103007) else (if x103003 < 0 then (item_Check.j3 k true x103000 x103001 x103002 x103003 x103004 x103005 x103006 x103007) else (item_Check.j3 k (decide (x103003 ≥ 8)) x103000 x103001 x103002 x103003 x103004 x103005 x103006 x103007))
def item_Check.j3 : Nat → Bool → Int → Int → Int → Int → Int → Int → Int → Int → Option (Int)
  | 0, _, _, _, _, _, _, _, _, _ => none
  | k + 1, x28, x103000, x103001, x103002, x103003, x103004, x103005, x103006, x103007 => if x28 = true then (some 1) else (if x103004 < 1 then (item_Check.j4 k true x103000 x103001 x103002 x103003 x103004 x103005 x103006 x103007) else (item_Check.j4 k (decide (x103004 > 1125899906842624)) x103000 x103001 x103002 x103003 x103004 x103005 x103006 x103007))
def item_Check.j4 : Nat → Bool → Int → Int → Int → Int → Int → Int → Int → Int → Option (Int)
  | 0, _, _, _, _, _, _, _, _, _ => none
  | k + 1, x47, x103000, x103001, x103002, x103003, x103004, x103005, x103006, x103007 => if x47 = true then (item_Check.j5 k x47 x103000 x103001 x103002 x103003 x103004 x103005 x103006 x103007) else (if x103005 < 0 then (item_Check.j5 k true x103000 x103001 x103002 x103003 x103004 x103005 x103006 x103007) else (item_Check.j5 k (decide (x103005 > 3)) x103000 x103001 x103002 x103003 x103004 x103005 x103006 x103007))
def item_Check.j5 : Nat → Bool → Int → Int → Int → Int → Int → Int → Int → Int → Option (Int)
  | 0, _, _, _, _, _, _, _, _, _ => none
  | k + 1, x47, x103000, x103001, x103002, x103003, x103004, x103005, x103006, x103007 => if x47 = true then (some 1) else (if x103006 < 1 then (item_Check.j6 k true x103000 x103001 x103002 x103003 x103004 x103005 x103006 x103007) else (item_Check.j6 k (decide (x103006 > 5)) x103000 x103001 x103002 x103003 x103004 x103005 x103006 x103007))
def item_Check.j6 : Nat → Bool → Int → Int → Int → Int → Int → Int → Int → Int → Option (Int)
  | 0, _, _, _, _, _, _, _, _, _ => none
  | k + 1, x64, x103000, x103001, x103002, x103003, x103004, x103005, x103006, x103007 => if x64 = true then (item_Check.j7 k x64 x103000 x103001 x103002 x103003 x103004 x103005 x103006 x103007) else (if x103007 < 0 then (item_Check.j7 k true x103000 x103001 x103002 x103003 x103004 x103005 x103006 x103007) else (item_Check.j7 k (decide (x103007 > 1048576)) x103000 x103001 x103002 x103003 x103004 x103005 x103006 x103007))
def item_Check.j7 : Nat → Bool → Int → Int → Int → Int → Int → Int → Int → Int → Option (Int)
  | 0, _, _, _, _, _, _, _, _, _ => none
  | k + 1, x64, x103000, x103001, x103002, x103003, x103004, x103005, x103006, x103007 => if x64 = true then (some 1) else (if x103007 = 0 then (item_Check.j8 k false x103000 x103001 x103002 x103003 x103004 x103005 x103006 x103007) else (if x103006 = 3 then (item_Check.j8 k false x103000 x103001 x103002 x103003 x103004 x103005 x103006 x103007) else (item_Check.j8 k (x103006 != 5) x103000 x103001 x103002 x103003 x103004 x103005 x103006 x103007)))
def item_Check.j8 : Nat → Bool → Int → Int → Int → Int → Int → Int → Int → Int → Option (Int)
  | 0, _, _, _, _, _, _, _, _, _ => none
  | k + 1, x81, x103000, x103001, x103002, x103003, x103004, x103005, x103006, x103007 => if x81 = true then (some 90) else (if x103007 = 0 then (if x103006 = 5 then (some 90) else (some 0)) else (some 0))
end
def item_Check.f (k : Nat) (a0_0 : Int) (a0_1 : Int) (a0_2 : Int) (a0_3 : Int) (a0_4 : Int) (a0_5 : Int) (a0_6 : Int) (a0_7 : Int) : Option (Int) := if a0_0 < 0 then (item_Check.j0 k true a0_0 a0_1 a0_2 a0_3 a0_4 a0_5 a0_6 a0_7) else (item_Check.j0 k (decide (a0_0 ≥ 8)) a0_0 a0_1 a0_2 a0_3 a0_4 a0_5 a0_6 a0_7)
theorem item_Check.mono_l : ∀ k, (∀ y0 y1 y2 y3 y4 y5 y6 y7 y8, LeO (item_Check.j0 k y0 y1 y2 y3 y4 y5 y6 y7 y8) (item_Check.j0 (k + 1) y0 y1 y2 y3 y4 y5 y6 y7 y8)) ∧ (∀ y0 y1 y2 y3 y4 y5 y6 y7 y8, LeO (item_Check.j1 k y0 y1 y2 y3 y4 y5 y6 y7 y8) (item_Check.j1 (k + 1) y0 y1 y2 y3 y4 y5 y6 y7 y8)) ∧ (∀ y0 y1 y2 y3 y4 y5 y6 y7 y8, LeO (item_Check.j2 k y0 y1 y2 y3 y4 y5 y6 y7 y8) (item_Check.j2 (k + 1) y0 y1 y2 y3 y4 y5 y6 y7 y8)) ∧ (∀ y0 y1 y2 y3 y4 y5 y6 y7 y8, LeO (item_Check.j3 k y0 y1 y2 y3 y4 y5 y6 y7 y8) (item_Check.j3 (k + 1) y0 y1 y2 y3 y4 y5 y6 y7 y8)) ∧ (∀ y0 y1 y2 y3 y4 y5 y6 y7 y8, LeO (item_Check.j4 k y0 y1 y2 y3 y4 y5 y6 y7 y8) (item_Check.j4 (k + 1) y0 y1 y2 y3 y4 y5 y6 y7 y8)) ∧ (∀ y0 y1 y2 y3 y4 y5 y6 y7 y8, LeO (item_Check.j5 k y0 y1 y2 y3 y4 y5 y6 y7 y8) (item_Check.j5 (k + 1) y0 y1 y2 y3 y4 y5 y6 y7 y8)) ∧ (∀ y0 y1 y2 y3 y4 y5 y6 y7 y8, LeO (item_Check.j6 k y0 y1 y2 y3 y4 y5 y6 y7 y8) (item_Check.j6 (k + 1) y0 y1 y2 y3 y4 y5 y6 y7 y8)) ∧ (∀ y0 y1 y2 y3 y4 y5 y6 y7 y8, LeO (item_Check.j7 k y0 y1 y2 y3 y4 y5 y6 y7 y8) (item_Check.j7 (k + 1) y0 y1 y2 y3 y4 y5 y6 y7 y8)) ∧ (∀ y0 y1 y2 y3 y4 y5 y6 y7 y8, LeO (item_Check.j8 k y0 y1 y2 y3 y4 y5 y6 y7 y8) (item_Check.j8 (k + 1) y0 y1 y2 y3 y4 y5 y6 y7 y8))
  | 0 => ⟨fun _ _ _ _ _ _ _ _ _ r h => by simp [item_Check.j0] at h, fun _ _ _ _ _ _ _ _ _ r h => by simp [item_Check.j1] at h, fun _ _ _ _ _ _ _ _ _ r h => by simp [item_Check.j2] at h, fun _ _ _ _ _ _ _ _ _ r h => by simp [item_Check.j3] at h, fun _ _ _ _ _ _ _ _ _ r h => by simp [item_Check.j4] at h, fun _ _ _ _ _ _ _ _ _ r h => by simp [item_Check.j5] at h, fun _ _ _ _ _ _ _ _ _ r h => by simp [item_Check.j6] at h, fun _ _ _ _ _ _ _ _ _ r h => by simp [item_Check.j7] at h, fun _ _ _ _ _ _ _ _ _ r h => by simp [item_Check.j8] at h⟩
  | k + 1 => by
    obtain ⟨ih0, ih1, ih2, ih3, ih4, ih5, ih6, ih7, ih8⟩ := item_Check.mono_l k
    refine ⟨?_, ?_, ?_, ?_, ?_, ?_, ?_, ?_, ?_⟩
    · intro y0 y1 y2 y3 y4 y5 y6 y7 y8
      unfold item_Check.j0
      repeat' first
      | (with_reducible exact ih0 _ _ _ _ _ _ _ _ _)
      | (with_reducible exact ih1 _ _ _ _ _ _ _ _ _)
      | (with_reducible exact ih2 _ _ _ _ _ _ _ _ _)
      | (with_reducible exact ih3 _ _ _ _ _ _ _ _ _)
      | (with_reducible exact ih4 _ _ _ _ _ _ _ _ _)
      | (with_reducible exact ih5 _ _ _ _ _ _ _ _ _)
      | (with_reducible exact ih6 _ _ _ _ _ _ _ _ _)
      | (with_reducible exact ih7 _ _ _ _ _ _ _ _ _)
      | (with_reducible exact ih8 _ _ _ _ _ _ _ _ _)
      | (with_reducible exact LeO.refl _)
      | (with_reducible exact LeO.none _)
      | (with_reducible refine LeO.ite ?_ ?_)
      | (with_reducible refine LeO.bind ?_ (fun _ => ?_))
      | exact ih0 _ _ _ _ _ _ _ _ _
      | exact ih1 _ _ _ _ _ _ _ _ _
      | exact ih2 _ _ _ _ _ _ _ _ _
      | exact ih3 _ _ _ _ _ _ _ _ _
      | exact ih4 _ _ _ _ _ _ _ _ _
      | exact ih5 _ _ _ _ _ _ _ _ _
      | exact ih6 _ _ _ _ _ _ _ _ _
      | exact ih7 _ _ _ _ _ _ _ _ _
      | exact ih8 _ _ _ _ _ _ _ _ _
      | exact LeO.none _
      | refine LeO.ite ?_ ?_
      | refine LeO.bind ?_ (fun _ => ?_)
    · intro y0 y1 y2 y3 y4 y5 y6 y7 y8
      unfold item_Check.j1
      repeat' first
      | (with_reducible exact ih0 _ _ _ _ _ _ _ _ _)
      | (with_reducible exact ih1 _ _ _ _ _ _ _ _ _)
      | (with_reducible exact ih2 _ _ _ _ _ _ _ _ _)
      | (with_reducible exact ih3 _ _ _ _ _ _ _ _ _)
      | (with_reducible exact ih4 _ _ _ _ _ _ _ _ _)
      | (with_reducible exact ih5 _ _ _ _ _ _ _ _ _)
      | (with_reducible exact ih6 _ _ _ _ _ _ _ _ _)
      | (with_reducible exact ih7 _ _ _ _ _ _ _ _ _)
      | (with_reducible exact ih8 _ _ _ _ _ _ _ _ _)
      | (with_reducible exact LeO.refl _)
      | (with_reducible exact LeO.none _)
      | (with_reducible refine LeO.ite ?_ ?_)
      | (with_reducible refine LeO.bind ?_ (fun _ => ?_))
      | exact ih0 _ _ _ _ _ _ _ _ _
      | exact ih1 _ _ _ _ _ _ _ _ _
      | exact ih2 _ _ _ _ _ _ _ _ _
      | exact ih3 _ _ _ _ _ _ _ _ _
      | exact ih4 _ _ _ _ _ _ _ _ _
      | exact ih5 _ _ _ _ _ _ _ _ _
      | exact ih6 _ _ _ _ _ _ _ _ _
      | exact ih7 _ _ _ _ _ _ _ _ _
      | exact ih8 _ _ _ _ _ _ _ _ _
      | exact LeO.none _
      | refine LeO.ite ?_ ?_
      | refine LeO.bind ?_ (fun _ => ?_)
    · intro y0 y1 y2 y3 y4 y5 y6 y7 y8
      unfold item_Check.j2
      repeat' first
      | (with_reducible exact ih0 _ _ _ _ _ _ _ _ _)
      | (with_reducible exact ih1 _ _ _ _ _ _ _ _ _)
      | (with_reducible exact ih2 _ _ _ _ _ _ _ _ _)
      | (with_reducible exact ih3 _ _ _ _ _ _ _ _ _)
      | (with_reducible exact ih4 _ _ _ _ _ _ _ _ _)
      | (with_reducible exact ih5 _ _ _ _ _ _ _ _ _)
      | (with_reducible exact ih6 _ _ _ _ _ _ _ _ _)
      | (with_reducible exact ih7 _ _ _ _ _ _ _ _ _)
      | (with_reducible exact ih8 _ _ _ _ _ _ _ _ _)
      | (with_reducible exact LeO.refl _)
      | (with_reducible exact LeO.none _)
      | (with_reducible refine LeO.ite ?_ ?_)
      | (with_reducible refine LeO.bind ?_ (fun _ => ?_))
      | exact ih0 _ _ _ _ _ _ _ _ _
      | exact ih1 _ _ _ _ _ _ _ _ _
      | exact ih2 _ _ _ _ _ _ _ _ _
      | exact ih3 _ _ _ _ _ _ _ _ _
      | exact ih4 _ _ _ _ _ _ _ _ _
      | exact ih5 _ _ _ _ _ _ _ _ _
      | exact ih6 _ _ _ _ _ _ _ _ _
      | exact ih7 _ _ _ _ _ _ _ _ _
      | exact ih8 _ _ _ _ _ _ _ _ _
      | exact LeO.none _
      | refine LeO.ite ?_ ?_
      | refine LeO.bind ?_ (fun _ => ?_)
    · intro y0 y1 y2 y3 y4 y5 y6 y7 y8
      unfold item_Check.j3
      repeat' first
      | (with_reducible exact ih0 _ _ _ _ _ _ _ _ _)
      | (with_reducible exact ih1 _ _ _ _ _ _ _ _ _)
      | (with_reducible exact ih2 _ _ _ _ _ _ _ _ _)
      | (with_reducible exact ih3 _ _ _ _ _ _ _ _ _)
      | (with_reducible exact ih4 _ _ _ _ _ _ _ _ _)
      | (with_reducible exact ih5 _ _ _ _ _ _ _ _ _)
      | (with_reducible exact ih6 _ _ _ _ _ _ _ _ _)
      | (with_reducible exact ih7 _ _ _ _ _ _ _ _ _)
      | (with_reducible exact ih8 _ _ _ _ _ _ _ _ _)
      | (with_reducible exact LeO.refl _)
      | (with_reducible exact LeO.none _)
      | (with_reducible refine LeO.ite ?_ ?_)
      | (with_reducible refine LeO.bind ?_ (fun _ => ?_))
      | exact ih0 _ _ _ _ _ _ _ _ _
      | exact ih1 _ _ _ _ _ _ _ _ _
      | exact ih2 _ _ _ _ _ _ _ _ _
      | exact ih3 _ _ _ _ _ _ _ _ _
      | exact ih4 _ _ _ _ _ _ _ _ _
      | exact ih5 _ _ _ _ _ _ _ _ _
      | exact ih6 _ _ _ _ _ _ _ _ _
      | exact ih7 _ _ _ _ _ _ _ _ _
      | exact ih8 _ _ _ _ _ _ _ _ _
      | exact LeO.none _
      | refine LeO.ite ?_ ?_
      | refine LeO.bind ?_ (fun _ => ?_)
    · intro y0 y1 y2 y3 y4 y5 y6 y7 y8
      unfold item_Check.j4
      repeat' first
      | (with_reducible exact ih0 _ _ _ _ _ _ _ _ _)
      | (with_reducible exact ih1 _ _ _ _ _ _ _ _ _)
      | (with_reducible exact ih2 _ _ _ _ _ _ _ _ _)
      | (with_reducible exact ih3 _ _ _ _ _ _ _ _ _)
      | (with_reducible exact ih4 _ _ _ _ _ _ _ _ _)
      | (with_reducible exact ih5 _ _ _ _ _ _ _ _ _)
      | (with_reducible exact ih6 _ _ _ _ _ _ _ _ _)
      | (with_reducible exact ih7 _ _ _ _ _ _ _ _ _)
      | (with_reducible exact ih8 _ _ _ _ _ _ _ _ _)
      | (with_reducible exact LeO.refl _)
      | (with_reducible exact LeO.none _)
      | (with_reducible refine LeO.ite ?_ ?_)
      | (with_reducible refine LeO.bind ?_ (fun _ => ?_))
      | exact ih0 _ _ _ _ _ _ _ _ _
      | exact ih1 _ _ _ _ _ _ _ _ _
      | exact ih2 _ _ _ _ _ _ _ _ _
      | exact ih3 _ _ _ _ _ _ _ _ _
      | exact ih4 _ _ _ _ _ _ _ _ _
      | exact ih5 _ _ _ _ _ _ _ _ _
      | exact ih6 _ _ _ _ _ _ _ _ _
      | exact ih7 _ _ _ _ _ _ _ _ _
      | exact ih8 _ _ _ _ _ _ _ _ _
      | exact LeO.none _
      | refine LeO.ite ?_ ?_
      | refine LeO.bind ?_ (fun _ => ?_)
    · intro y0 y1 y2 y3 y4 y5 y6 y7 y8
      unfold item_Check.j5
      repeat' first
      | (with_reducible exact ih0 _ _ _ _ _ _ _ _ _)
      | (with_reducible exact ih1 _ _ _ _ _ _ _ _ _)
      | (with_reducible exact ih2 _ _ _ _ _ _ _ _ _)
      | (with_reducible exact ih3 _ _ _ _ _ _ _ _ _)
      | (with_reducible exact ih4 _ _ _ _ _ _ _ _ _)
      | (with_reducible exact ih5 _ _ _ _ _ _ _ _ _)
      | (with_reducible exact ih6 _ _ _ _ _ _ _ _ _)
      | (with_reducible exact ih7 _ _ _ _ _ _ _ _ _)
      | (with_reducible exact ih8 _ _ _ _ _ _ _ _ _)
      | (with_reducible exact LeO.refl _)
      | (with_reducible exact LeO.none _)
      | (with_reducible refine LeO.ite ?_ ?_)
      | (with_reducible refine LeO.bind ?_ (fun _ => ?_))
      | exact ih0 _ _ _ _ _ _ _ _ _
      | exact ih1 _ _ _ _ _ _ _ _ _
      | exact ih2 _ _ _ _ _ _ _ _ _
      | exact ih3 _ _ _ _ _ _ _ _ _
      | exact ih4 _ _ _ _ _ _ _ _ _
      | exact ih5 _ _ _ _ _ _ _ _ _
      | exact ih6 _ _ _ _ _ _ _ _ _
      | exact ih7 _ _ _ _ _ _ _ _ _
      | exact ih8 _ _ _ _ _ _ _ _ _
      | exact LeO.none _
      | refine LeO.ite ?_ ?_
      | refine LeO.bind ?_ (fun _ => ?_)
    · intro y0 y1 y2 y3 y4 y5 y6 y7 y8
      unfold item_Check.j6
      repeat' first
      | (with_reducible exact ih0 _ _ _ _ _ _ _ _ _)
      | (with_reducible exact ih1 _ _ _ _ _ _ _ _ _)
      | (with_reducible exact ih2 _ _ _ _ _ _ _ _ _)
      | (with_reducible exact ih3 _ _ _ _ _ _ _ _ _)
      | (with_reducible exact ih4 _ _ _ _ _ _ _ _ _)
      | (with_reducible exact ih5 _ _ _ _ _ _ _ _ _)
      | (with_reducible exact ih6 _ _ _ _ _ _ _ _ _)
      | (with_reducible exact ih7 _ _ _ _ _ _ _ _ _)
      | (with_reducible exact ih8 _ _ _ _ _ _ _ _ _)
      | (with_reducible exact LeO.refl _)
      | (with_reducible exact LeO.none _)
      | (with_reducible refine LeO.ite ?_ ?_)
      | (with_reducible refine LeO.bind ?_ (fun _ => ?_))
      | exact ih0 _ _ _ _ _ _ _ _ _
      | exact ih1 _ _ _ _ _ _ _ _ _
      | exact ih2 _ _ _ _ _ _ _ _ _
      | exact ih3 _ _ _ _ _ _ _ _ _
      | exact ih4 _ _ _ _ _ _ _ _ _
      | exact ih5 _ _ _ _ _ _ _ _ _
      | exact ih6 _ _ _ _ _ _ _ _ _
      | exact ih7 _ _ _ _ _ _ _ _ _
      | exact ih8 _ _ _ _ _ _ _ _ _
      | exact LeO.none _
      | refine LeO.ite ?_ ?_
      | refine LeO.bind ?_ (fun _ => ?_)
    · intro y0 y1 y2 y3 y4 y5 y6 y7 y8
      unfold item_Check.j7
      repeat' first
      | (with_reducible exact ih0 _ _ _ _ _ _ _ _ _)
      | (with_reducible exact ih1 _ _ _ _ _ _ _ _ _)
      | (with_reducible exact ih2 _ _ _ _ _ _ _ _ _)
      | (with_reducible exact ih3 _ _ _ _ _ _ _ _ _)
      | (with_reducible exact ih4 _ _ _ _ _ _ _ _ _)
      | (with_reducible exact ih5 _ _ _ _ _ _ _ _ _)
      | (with_reducible exact ih6 _ _ _ _ _ _ _ _ _)
      | (with_reducible exact ih7 _ _ _ _ _ _ _ _ _)
      | (with_reducible exact ih8 _ _ _ _ _ _ _ _ _)
      | (with_reducible exact LeO.refl _)
      | (with_reducible exact LeO.none _)
      | (with_reducible refine LeO.ite ?_ ?_)
      | (with_reducible refine LeO.bind ?_ (fun _ => ?_))
      | exact ih0 _ _ _ _ _ _ _ _ _
      | exact ih1 _ _ _ _ _ _ _ _ _
      | exact ih2 _ _ _ _ _ _ _ _ _
      | exact ih3 _ _ _ _ _ _ _ _ _
      | exact ih4 _ _ _ _ _ _ _ _ _
      | exact ih5 _ _ _ _ _ _ _ _ _
      | exact ih6 _ _ _ _ _ _ _ _ _
      | exact ih7 _ _ _ _ _ _ _ _ _
      | exact ih8 _ _ _ _ _ _ _ _ _
      | exact LeO.none _
      | refine LeO.ite ?_ ?_
      | refine LeO.bind ?_ (fun _ => ?_)
    · intro y0 y1 y2 y3 y4 y5 y6 y7 y8
      unfold item_Check.j8
      repeat' first
      | (with_reducible exact ih0 _ _ _ _ _ _ _ _ _)
      | (with_reducible exact ih1 _ _ _ _ _ _ _ _ _)
      | (with_reducible exact ih2 _ _ _ _ _ _ _ _ _)
      | (with_reducible exact ih3 _ _ _ _ _ _ _ _ _)
      | (with_reducible exact ih4 _ _ _ _ _ _ _ _ _)
      | (with_reducible exact ih5 _ _ _ _ _ _ _ _ _)
      | (with_reducible exact ih6 _ _ _ _ _ _ _ _ _)
      | (with_reducible exact ih7 _ _ _ _ _ _ _ _ _)
      | (with_reducible exact ih8 _ _ _ _ _ _ _ _ _)
      | (with_reducible exact LeO.refl _)
      | (with_reducible exact LeO.none _)
      | (with_reducible refine LeO.ite ?_ ?_)
      | (with_reducible refine LeO.bind ?_ (fun _ => ?_))
      | exact ih0 _ _ _ _ _ _ _ _ _
      | exact ih1 _ _ _ _ _ _ _ _ _
      | exact ih2 _ _ _ _ _ _ _ _ _
      | exact ih3 _ _ _ _ _ _ _ _ _
      | exact ih4 _ _ _ _ _ _ _ _ _
      | exact ih5 _ _ _ _ _ _ _ _ _
      | exact ih6 _ _ _ _ _ _ _ _ _
      | exact ih7 _ _ _ _ _ _ _ _ _
      | exact ih8 _ _ _ _ _ _ _ _ _
      | exact LeO.none _
      | refine LeO.ite ?_ ?_
      | refine LeO.bind ?_ (fun _ => ?_)
theorem item_Check.mono : ∀ a0 a1 a2 a3 a4 a5 a6 a7 k, LeO (item_Check.f k a0 a1 a2 a3 a4 a5 a6 a7) (item_Check.f (k + 1) a0 a1 a2 a3 a4 a5 a6 a7) := by
  intro a0 a1 a2 a3 a4 a5 a6 a7 k
  obtain ⟨ih0, ih1, ih2, ih3, ih4, ih5, ih6, ih7, ih8⟩ := item_Check.mono_l k
  unfold item_Check.f
  repeat' first
      | (with_reducible exact ih0 _ _ _ _ _ _ _ _ _)
      | (with_reducible exact ih1 _ _ _ _ _ _ _ _ _)
      | (with_reducible exact ih2 _ _ _ _ _ _ _ _ _)
      | (with_reducible exact ih3 _ _ _ _ _ _ _ _ _)
      | (with_reducible exact ih4 _ _ _ _ _ _ _ _ _)
      | (with_reducible exact ih5 _ _ _ _ _ _ _ _ _)
      | (with_reducible exact ih6 _ _ _ _ _ _ _ _ _)
      | (with_reducible exact ih7 _ _ _ _ _ _ _ _ _)
      | (with_reducible exact ih8 _ _ _ _ _ _ _ _ _)
      | (with_reducible exact LeO.refl _)
      | (with_reducible exact LeO.none _)
      | (with_reducible refine LeO.ite ?_ ?_)
      | (with_reducible refine LeO.bind ?_ (fun _ => ?_))
      | exact ih0 _ _ _ _ _ _ _ _ _
      | exact ih1 _ _ _ _ _ _ _ _ _
      | exact ih2 _ _ _ _ _ _ _ _ _
      | exact ih3 _ _ _ _ _ _ _ _ _
      | exact ih4 _ _ _ _ _ _ _ _ _
      | exact ih5 _ _ _ _ _ _ _ _ _
      | exact ih6 _ _ _ _ _ _ _ _ _
      | exact ih7 _ _ _ _ _ _ _ _ _
      | exact ih8 _ _ _ _ _ _ _ _ _
      | exact LeO.none _
      | refine LeO.ite ?_ ?_
      | refine LeO.bind ?_ (fun _ => ?_)
set_option maxHeartbeats 8000000 in
set_option maxRecDepth 100000 in
theorem item_Check.calls (k : Nat) (a0_0 : Int) (a0_1 : Int) (a0_2 : Int) (a0_3 : Int) (a0_4 : Int) (a0_5 : Int) (a0_6 : Int) (a0_7 : Int) (r : Int) (w : World) (h : item_Check.f k a0_0 a0_1 a0_2 a0_3 a0_4 a0_5 a0_6 a0_7 = some r) :
    Calls Try.prog 6 #[.agg #[.int .i64 a0_0, .int .i64 a0_1, .int .i64 a0_2, .int .i64 a0_3, .int .i64 a0_4, .int .i64 a0_5, .int .i64 a0_6, .int .i64 a0_7]] w fun e w' => e = .returned (.int .i64 r) ∧ Below w.heap.size w w' := by
  have hu33 := Try.underlying33
  have HB := Aside0.mk (Below.refl w.heap.size w)
  have H : (if a0_0 < 0 then (item_Check.j0 k true a0_0 a0_1 a0_2 a0_3 a0_4 a0_5 a0_6 a0_7) else (item_Check.j0 k (decide (a0_0 ≥ 8)) a0_0 a0_1 a0_2 a0_3 a0_4 a0_5 a0_6 a0_7)) = some r := h
  clear h
  have HC2 := Aside0.mk H
  clear H
  go_enter Try.func6, Try.ntmps6
  go_upto_region 1 with (first | ((with_reducible refine gate_dst (N := 1) rfl ?_); refine box_event ?hg (N := 1) ?hd (cs := #[.int .i64 a0_0, .int .i64 a0_1, .int .i64 a0_2, .int .i64 a0_3, .int .i64 a0_4, .int .i64 a0_5, .int .i64 a0_6, .int .i64 a0_7]) (t := 33) ?hr ?_; (case hd => rfl); (case hg => rfl); (case hr => first | (go_simp; done) | (go_simp; rfl)); intro gb102 hg w3 hbox hb; have n0_ := Aside0.mk (below_step (by repeat (first | (with_reducible first | exact HB.out | apply below_alloc | apply pw_below_drewN | apply below_drew1) | exact HB.out)) hb); have n1_ := Aside0.mk (hbox); have n2_ := Aside0.mk ((by rw [hg]; exact (below_size (by repeat (first | (with_reducible first | exact HB.out | apply below_alloc | apply pw_below_drewN | apply below_drew1) | exact HB.out))) : w.heap.size ≤ gb102)); have n3_ := Aside0.mk ((by rw [hg]; exact (below_size (by repeat (first | (with_reducible first | exact HB.out | apply below_alloc | apply pw_below_drewN | apply below_drew1) | exact HB.out))) : w.heap.size ≤ gb102)); clear HB; have HB := n0_; have BK102 := n1_; have GW102 := n2_; have GE102 := n3_; clear n0_ n1_ n2_ n3_; clear hb hbox hg))
  (try simp only [Act.put, List.setIfInBounds_toArray, List.set_cons_zero, List.set_cons_succ])
  go_cut [3] (fun v3 wc => ∃ (kq : Nat) (x3_1 : Bool), v3 = .bool x3_1 ∧ Aside0 (item_Check.j0 kq x3_1 a0_0 a0_1 a0_2 a0_3 a0_4 a0_5 a0_6 a0_7 = some r) ∧ Aside0 (kq ≤ k) ∧ Aside0 (wc.heap[gb102]? = some (.cells #[.int .i64 a0_0, .int .i64 a0_1, .int .i64 a0_2, .int .i64 a0_3, .int .i64 a0_4, .int .i64 a0_5, .int .i64 a0_6, .int .i64 a0_7] 33 (0, 0))) ∧ Aside0 (Below w.heap.size w wc))
  case first =>
    have H := HC2.out
    clear HC2
    by_cases c4 : a0_0 < 0
    · rw [if_pos c4] at H
      have c4b0 : decide (a0_0 < 0) = true := decide_eq_true c4
      clear c4
      (first | rw [c4b0] | (simp only [i64_w, i32_w]; rw [c4b0]) | skip)
      have H' := Aside0.mk H
      clear H
      have hcz5_0 : w3.cell? ⟨gb102, 0, none⟩ = some (.int .i64 a0_0) := (blk_cell BK102.out 0).trans rfl
      have hcz5_1 : w3.cell? ⟨gb102, 1, none⟩ = some (.int .i64 a0_1) := (blk_cell BK102.out 1).trans rfl
      have hcz5_2 : w3.cell? ⟨gb102, 2, none⟩ = some (.int .i64 a0_2) := (blk_cell BK102.out 2).trans rfl
      have hcz5_3 : w3.cell? ⟨gb102, 3, none⟩ = some (.int .i64 a0_3) := (blk_cell BK102.out 3).trans rfl
      have hcz5_4 : w3.cell? ⟨gb102, 4, none⟩ = some (.int .i64 a0_4) := (blk_cell BK102.out 4).trans rfl
      have hcz5_5 : w3.cell? ⟨gb102, 5, none⟩ = some (.int .i64 a0_5) := (blk_cell BK102.out 5).trans rfl
      have hcz5_6 : w3.cell? ⟨gb102, 6, none⟩ = some (.int .i64 a0_6) := (blk_cell BK102.out 6).trans rfl
      have hcz5_7 : w3.cell? ⟨gb102, 7, none⟩ = some (.int .i64 a0_7) := (blk_cell BK102.out 7).trans rfl
      have hfz5_0 := blk_frozen BK102.out 0
      have hfz5_1 := blk_frozen BK102.out 1
      have hfz5_2 := blk_frozen BK102.out 2
      have hfz5_3 := blk_frozen BK102.out 3
      have hfz5_4 := blk_frozen BK102.out 4
      have hfz5_5 := blk_frozen BK102.out 5
      have hfz5_6 := blk_frozen BK102.out 6
      have hfz5_7 := blk_frozen BK102.out 7
      go_wp2
      go_meet
      case rel => exact ⟨_, (true), (by first | rfl | (simp; done) | (simp [*]; done)), H', ⟨by first | omega | exact Nat.le_refl _⟩, ⟨by (with_reducible repeat (first | refine blk_drewN ?_ _ | refine blk_drew ?_ | refine blk_alloc ?_ _)); exact BK102.out⟩, ⟨by repeat (first | (with_reducible first | exact HB.out | apply below_alloc | apply pw_below_drewN | apply below_drew1 | refine below_set ?_ GE102.out) | exact HB.out)⟩⟩
    · rw [if_neg c4] at H
      have c4b0 : decide (a0_0 < 0) = false := decide_eq_false c4
      clear c4
      (first | rw [c4b0] | (simp only [i64_w, i32_w]; rw [c4b0]) | skip)
      have H' := Aside0.mk H
      clear H
      have hcz6_0 : w3.cell? ⟨gb102, 0, none⟩ = some (.int .i64 a0_0) := (blk_cell BK102.out 0).trans rfl
      have hcz6_1 : w3.cell? ⟨gb102, 1, none⟩ = some (.int .i64 a0_1) := (blk_cell BK102.out 1).trans rfl
      have hcz6_2 : w3.cell? ⟨gb102, 2, none⟩ = some (.int .i64 a0_2) := (blk_cell BK102.out 2).trans rfl
      have hcz6_3 : w3.cell? ⟨gb102, 3, none⟩ = some (.int .i64 a0_3) := (blk_cell BK102.out 3).trans rfl
      have hcz6_4 : w3.cell? ⟨gb102, 4, none⟩ = some (.int .i64 a0_4) := (blk_cell BK102.out 4).trans rfl
      have hcz6_5 : w3.cell? ⟨gb102, 5, none⟩ = some (.int .i64 a0_5) := (blk_cell BK102.out 5).trans rfl
      have hcz6_6 : w3.cell? ⟨gb102, 6, none⟩ = some (.int .i64 a0_6) := (blk_cell BK102.out 6).trans rfl
      have hcz6_7 : w3.cell? ⟨gb102, 7, none⟩ = some (.int .i64 a0_7) := (blk_cell BK102.out 7).trans rfl
      have hfz6_0 := blk_frozen BK102.out 0
      have hfz6_1 := blk_frozen BK102.out 1
      have hfz6_2 := blk_frozen BK102.out 2
      have hfz6_3 := blk_frozen BK102.out 3
      have hfz6_4 := blk_frozen BK102.out 4
      have hfz6_5 := blk_frozen BK102.out 5
      have hfz6_6 := blk_frozen BK102.out 6
      have hfz6_7 := blk_frozen BK102.out 7
      go_wp2
      go_meet
      case rel => exact ⟨_, (decide (a0_0 ≥ 8)), (by first | rfl | (simp; done) | (simp [*]; done)), H', ⟨by first | omega | exact Nat.le_refl _⟩, ⟨by (with_reducible repeat (first | refine blk_drewN ?_ _ | refine blk_drew ?_ | refine blk_alloc ?_ _)); exact BK102.out⟩, ⟨by repeat (first | (with_reducible first | exact HB.out | apply below_alloc | apply pw_below_drewN | apply below_drew1 | refine below_set ?_ GE102.out) | exact HB.out)⟩⟩
  case rest =>
    clear HC2
    try clear p2
    try clear c4
    try clear c4b0
    try clear c6
    try clear hcz5_0
    try clear hcz5_1
    try clear hcz5_2
    try clear hcz5_3
    try clear hcz5_4
    try clear hcz5_5
    try clear hcz5_6
    try clear hcz5_7
    try clear hcz6_0
    try clear hcz6_1
    try clear hcz6_2
    try clear hcz6_3
    try clear hcz6_4
    try clear hcz6_5
    try clear hcz6_6
    try clear hcz6_7
    try clear hfz5_0
    try clear hfz5_1
    try clear hfz5_2
    try clear hfz5_3
    try clear hfz5_4
    try clear hfz5_5
    try clear hfz5_6
    try clear hfz5_7
    try clear hfz6_0
    try clear hfz6_1
    try clear hfz6_2
    try clear hfz6_3
    try clear hfz6_4
    try clear hfz6_5
    try clear hfz6_6
    try clear hfz6_7
    obtain ⟨kq, x3_1, rfl, HA, HJ1, BK102, HB⟩ := hcut
    cases kq with
    | zero => exact absurd HA.out (by simp [item_Check.j0])
    | succ kj1 =>
      have H := HA.out
      clear HA
      simp only [item_Check.j0] at H
      have HC7 := Aside0.mk H
      clear H
      go_upto_if 3 with (fail)
      go_cut [3] (fun v3 wc => ∃ (kq : Nat) (x3_6 : Bool), v3 = .bool x3_6 ∧ Aside0 (item_Check.j1 kq x3_6 a0_0 a0_1 a0_2 a0_3 a0_4 a0_5 a0_6 a0_7 = some r) ∧ Aside0 (kq ≤ kj1) ∧ Aside0 (wc.heap[gb102]? = some (.cells #[.int .i64 a0_0, .int .i64 a0_1, .int .i64 a0_2, .int .i64 a0_3, .int .i64 a0_4, .int .i64 a0_5, .int .i64 a0_6, .int .i64 a0_7] 33 (0, 0))) ∧ Aside0 (Below w.heap.size w wc))
      case first =>
        have H := HC7.out
        clear HC7
        by_cases c8 : x3_1 = true
        · subst c8
          have H1 : (item_Check.j1 kj1 true a0_0 a0_1 a0_2 a0_3 a0_4 a0_5 a0_6 a0_7) = some r := by rw [if_pos rfl] at H; exact H
          clear H
          have H := H1
          clear H1
          have H' := Aside0.mk H
          clear H
          go_wp2
          go_meet
          case rel => exact ⟨_, (true), (by first | rfl | (simp; done) | (simp [*]; done)), H', ⟨by have := HJ1.out; first | omega | exact Nat.le_refl _⟩, ⟨by (with_reducible repeat (first | refine blk_drewN ?_ _ | refine blk_drew ?_ | refine blk_alloc ?_ _)); exact BK102.out⟩, ⟨by repeat (first | (with_reducible first | exact HB.out | apply below_alloc | apply pw_below_drewN | apply below_drew1 | refine below_set ?_ GE102.out) | exact HB.out)⟩⟩
        · replace c8 := Bool.eq_false_iff.mpr c8
          subst c8
          have H1 : (if a0_2 < 0 then (item_Check.j1 kj1 true a0_0 a0_1 a0_2 a0_3 a0_4 a0_5 a0_6 a0_7) else (if a0_2 ≥ 8 then (item_Check.j1 kj1 (decide (a0_2 ≥ 8)) a0_0 a0_1 a0_2 a0_3 a0_4 a0_5 a0_6 a0_7) else (item_Check.j1 kj1 (a0_2 == a0_0) a0_0 a0_1 a0_2 a0_3 a0_4 a0_5 a0_6 a0_7))) = some r := by rw [if_neg (show ¬ (false = true) by decide)] at H; exact H
          clear H
          have H := H1
          clear H1
          by_cases c9 : a0_2 < 0
          · rw [if_pos c9] at H
            have c9b0 : decide (a0_2 < 0) = true := decide_eq_true c9
            clear c9
            (first | rw [c9b0] | (simp only [i64_w, i32_w]; rw [c9b0]) | skip)
            have H' := Aside0.mk H
            clear H
            have hcz10_0 : wc.cell? ⟨gb102, 0, none⟩ = some (.int .i64 a0_0) := (blk_cell BK102.out 0).trans rfl
            have hcz10_1 : wc.cell? ⟨gb102, 1, none⟩ = some (.int .i64 a0_1) := (blk_cell BK102.out 1).trans rfl
            have hcz10_2 : wc.cell? ⟨gb102, 2, none⟩ = some (.int .i64 a0_2) := (blk_cell BK102.out 2).trans rfl
            have hcz10_3 : wc.cell? ⟨gb102, 3, none⟩ = some (.int .i64 a0_3) := (blk_cell BK102.out 3).trans rfl
            have hcz10_4 : wc.cell? ⟨gb102, 4, none⟩ = some (.int .i64 a0_4) := (blk_cell BK102.out 4).trans rfl
            have hcz10_5 : wc.cell? ⟨gb102, 5, none⟩ = some (.int .i64 a0_5) := (blk_cell BK102.out 5).trans rfl
            have hcz10_6 : wc.cell? ⟨gb102, 6, none⟩ = some (.int .i64 a0_6) := (blk_cell BK102.out 6).trans rfl
            have hcz10_7 : wc.cell? ⟨gb102, 7, none⟩ = some (.int .i64 a0_7) := (blk_cell BK102.out 7).trans rfl
            have hfz10_0 := blk_frozen BK102.out 0
            have hfz10_1 := blk_frozen BK102.out 1
            have hfz10_2 := blk_frozen BK102.out 2
            have hfz10_3 := blk_frozen BK102.out 3
            have hfz10_4 := blk_frozen BK102.out 4
            have hfz10_5 := blk_frozen BK102.out 5
            have hfz10_6 := blk_frozen BK102.out 6
            have hfz10_7 := blk_frozen BK102.out 7
            go_wp2
            go_meet
            case rel => exact ⟨_, (true), (by first | rfl | (simp; done) | (simp [*]; done)), H', ⟨by have := HJ1.out; first | omega | exact Nat.le_refl _⟩, ⟨by (with_reducible repeat (first | refine blk_drewN ?_ _ | refine blk_drew ?_ | refine blk_alloc ?_ _)); exact BK102.out⟩, ⟨by repeat (first | (with_reducible first | exact HB.out | apply below_alloc | apply pw_below_drewN | apply below_drew1 | refine below_set ?_ GE102.out) | exact HB.out)⟩⟩
          · rw [if_neg c9] at H
            have c9b0 : decide (a0_2 < 0) = false := decide_eq_false c9
            clear c9
            (first | rw [c9b0] | (simp only [i64_w, i32_w]; rw [c9b0]) | skip)
            by_cases c11 : a0_2 ≥ 8
            · rw [if_pos c11] at H
              have c11b0 : decide (8 ≤ a0_2) = true := decide_eq_true c11
              clear c11
              have H' := Aside0.mk H
              clear H
              have hcz12_0 : wc.cell? ⟨gb102, 0, none⟩ = some (.int .i64 a0_0) := (blk_cell BK102.out 0).trans rfl
              have hcz12_1 : wc.cell? ⟨gb102, 1, none⟩ = some (.int .i64 a0_1) := (blk_cell BK102.out 1).trans rfl
              have hcz12_2 : wc.cell? ⟨gb102, 2, none⟩ = some (.int .i64 a0_2) := (blk_cell BK102.out 2).trans rfl
              have hcz12_3 : wc.cell? ⟨gb102, 3, none⟩ = some (.int .i64 a0_3) := (blk_cell BK102.out 3).trans rfl
              have hcz12_4 : wc.cell? ⟨gb102, 4, none⟩ = some (.int .i64 a0_4) := (blk_cell BK102.out 4).trans rfl
              have hcz12_5 : wc.cell? ⟨gb102, 5, none⟩ = some (.int .i64 a0_5) := (blk_cell BK102.out 5).trans rfl
              have hcz12_6 : wc.cell? ⟨gb102, 6, none⟩ = some (.int .i64 a0_6) := (blk_cell BK102.out 6).trans rfl
              have hcz12_7 : wc.cell? ⟨gb102, 7, none⟩ = some (.int .i64 a0_7) := (blk_cell BK102.out 7).trans rfl
              have hfz12_0 := blk_frozen BK102.out 0
              have hfz12_1 := blk_frozen BK102.out 1
              have hfz12_2 := blk_frozen BK102.out 2
              have hfz12_3 := blk_frozen BK102.out 3
              have hfz12_4 := blk_frozen BK102.out 4
              have hfz12_5 := blk_frozen BK102.out 5
              have hfz12_6 := blk_frozen BK102.out 6
              have hfz12_7 := blk_frozen BK102.out 7
              go_wp2
              go_meet
              case rel => exact ⟨_, (decide (a0_2 ≥ 8)), (by first | rfl | (simp; done) | (simp [*]; done)), H', ⟨by have := HJ1.out; first | omega | exact Nat.le_refl _⟩, ⟨by (with_reducible repeat (first | refine blk_drewN ?_ _ | refine blk_drew ?_ | refine blk_alloc ?_ _)); exact BK102.out⟩, ⟨by repeat (first | (with_reducible first | exact HB.out | apply below_alloc | apply pw_below_drewN | apply below_drew1 | refine below_set ?_ GE102.out) | exact HB.out)⟩⟩
            · rw [if_neg c11] at H
              have c11b0 : decide (8 ≤ a0_2) = false := decide_eq_false c11
              clear c11
              have H' := Aside0.mk H
              clear H
              have hcz13_0 : wc.cell? ⟨gb102, 0, none⟩ = some (.int .i64 a0_0) := (blk_cell BK102.out 0).trans rfl
              have hcz13_1 : wc.cell? ⟨gb102, 1, none⟩ = some (.int .i64 a0_1) := (blk_cell BK102.out 1).trans rfl
              have hcz13_2 : wc.cell? ⟨gb102, 2, none⟩ = some (.int .i64 a0_2) := (blk_cell BK102.out 2).trans rfl
              have hcz13_3 : wc.cell? ⟨gb102, 3, none⟩ = some (.int .i64 a0_3) := (blk_cell BK102.out 3).trans rfl
              have hcz13_4 : wc.cell? ⟨gb102, 4, none⟩ = some (.int .i64 a0_4) := (blk_cell BK102.out 4).trans rfl
              have hcz13_5 : wc.cell? ⟨gb102, 5, none⟩ = some (.int .i64 a0_5) := (blk_cell BK102.out 5).trans rfl
              have hcz13_6 : wc.cell? ⟨gb102, 6, none⟩ = some (.int .i64 a0_6) := (blk_cell BK102.out 6).trans rfl
              have hcz13_7 : wc.cell? ⟨gb102, 7, none⟩ = some (.int .i64 a0_7) := (blk_cell BK102.out 7).trans rfl
              have hfz13_0 := blk_frozen BK102.out 0
              have hfz13_1 := blk_frozen BK102.out 1
              have hfz13_2 := blk_frozen BK102.out 2
              have hfz13_3 := blk_frozen BK102.out 3
              have hfz13_4 := blk_frozen BK102.out 4
              have hfz13_5 := blk_frozen BK102.out 5
              have hfz13_6 := blk_frozen BK102.out 6
              have hfz13_7 := blk_frozen BK102.out 7
              go_wp2
              go_meet
              case rel => exact ⟨_, ((a0_2 == a0_0)), (by first | rfl | (simp; done) | (simp [*]; done)), H', ⟨by have := HJ1.out; first | omega | exact Nat.le_refl _⟩, ⟨by (with_reducible repeat (first | refine blk_drewN ?_ _ | refine blk_drew ?_ | refine blk_alloc ?_ _)); exact BK102.out⟩, ⟨by repeat (first | (with_reducible first | exact HB.out | apply below_alloc | apply pw_below_drewN | apply below_drew1 | refine below_set ?_ GE102.out) | exact HB.out)⟩⟩
      case rest =>
        clear HC7
        try clear c1
        try clear p2
        try clear c4
        try clear c4b0
        try clear c6
        try clear c8
        try clear c9
        try clear c9b0
        try clear c11
        try clear c11b0
        try clear hcz10_0
        try clear hcz10_1
        try clear hcz10_2
        try clear hcz10_3
        try clear hcz10_4
        try clear hcz10_5
        try clear hcz10_6
        try clear hcz10_7
        try clear hcz12_0
        try clear hcz12_1
        try clear hcz12_2
        try clear hcz12_3
        try clear hcz12_4
        try clear hcz12_5
        try clear hcz12_6
        try clear hcz12_7
        try clear hcz13_0
        try clear hcz13_1
        try clear hcz13_2
        try clear hcz13_3
        try clear hcz13_4
        try clear hcz13_5
        try clear hcz13_6
        try clear hcz13_7
        try clear hcz5_0
        try clear hcz5_1
        try clear hcz5_2
        try clear hcz5_3
        try clear hcz5_4
        try clear hcz5_5
        try clear hcz5_6
        try clear hcz5_7
        try clear hcz6_0
        try clear hcz6_1
        try clear hcz6_2
        try clear hcz6_3
        try clear hcz6_4
        try clear hcz6_5
        try clear hcz6_6
        try clear hcz6_7
        try clear hfz10_0
        try clear hfz10_1
        try clear hfz10_2
        try clear hfz10_3
        try clear hfz10_4
        try clear hfz10_5
        try clear hfz10_6
        try clear hfz10_7
        try clear hfz12_0
        try clear hfz12_1
        try clear hfz12_2
        try clear hfz12_3
        try clear hfz12_4
        try clear hfz12_5
        try clear hfz12_6
        try clear hfz12_7
        try clear hfz13_0
        try clear hfz13_1
        try clear hfz13_2
        try clear hfz13_3
        try clear hfz13_4
        try clear hfz13_5
        try clear hfz13_6
        try clear hfz13_7
        try clear hfz5_0
        try clear hfz5_1
        try clear hfz5_2
        try clear hfz5_3
        try clear hfz5_4
        try clear hfz5_5
        try clear hfz5_6
        try clear hfz5_7
        try clear hfz6_0
        try clear hfz6_1
        try clear hfz6_2
        try clear hfz6_3
        try clear hfz6_4
        try clear hfz6_5
        try clear hfz6_6
        try clear hfz6_7
        try clear p2
        obtain ⟨kq, x3_6, rfl, HA, HJ6, BK102, HB⟩ := hcut
        cases kq with
        | zero => exact absurd HA.out (by simp [item_Check.j1])
        | succ kj6 =>
          have H := HA.out
          clear HA
          simp only [item_Check.j1] at H
          by_cases c14 : x3_6 = true
          · subst c14
            have H1 : (some 1) = some r := by rw [if_pos rfl] at H; exact H
            clear H
            have H := H1
            clear H1
            obtain rfl := Option.some.inj H
            go_wp2
            go_ret
            exact ⟨by first | rfl | (simp [errW_none, errW_some] <;> rfl) | (simp [*, errW_none, errW_some] <;> rfl), by repeat (first | (with_reducible first | exact HB.out | apply below_alloc | apply pw_below_drewN | apply below_drew1 | refine below_set ?_ GE102.out) | exact HB.out)⟩
          · replace c14 := Bool.eq_false_iff.mpr c14
            subst c14
            have H1 : (if a0_1 < 1 then (item_Check.j2 kj6 true a0_0 a0_1 a0_2 a0_3 a0_4 a0_5 a0_6 a0_7) else (item_Check.j2 kj6 (decide (a0_1 > 1048576)) a0_0 a0_1 a0_2 a0_3 a0_4 a0_5 a0_6 a0_7)) = some r := by rw [if_neg (show ¬ (false = true) by decide)] at H; exact H
            clear H
            have H := H1
            clear H1
            have HC15 := Aside0.mk H
            clear H
            go_upto_region 5 with (fail)
            go_cut [28] (fun v28 wc => ∃ (kq : Nat) (x28_14 : Bool), v28 = .bool x28_14 ∧ Aside0 (item_Check.j2 kq x28_14 a0_0 a0_1 a0_2 a0_3 a0_4 a0_5 a0_6 a0_7 = some r) ∧ Aside0 (kq ≤ kj6) ∧ Aside0 (wc.heap[gb102]? = some (.cells #[.int .i64 a0_0, .int .i64 a0_1, .int .i64 a0_2, .int .i64 a0_3, .int .i64 a0_4, .int .i64 a0_5, .int .i64 a0_6, .int .i64 a0_7] 33 (0, 0))) ∧ Aside0 (Below w.heap.size w wc))
            case first =>
              have H := HC15.out
              clear HC15
              by_cases c16 : a0_1 < 1
              · rw [if_pos c16] at H
                have c16b0 : decide (a0_1 < 1) = true := decide_eq_true c16
                clear c16
                (first | rw [c16b0] | (simp only [i64_w, i32_w]; rw [c16b0]) | skip)
                have H' := Aside0.mk H
                clear H
                have hcz17_0 : wc.cell? ⟨gb102, 0, none⟩ = some (.int .i64 a0_0) := (blk_cell BK102.out 0).trans rfl
                have hcz17_1 : wc.cell? ⟨gb102, 1, none⟩ = some (.int .i64 a0_1) := (blk_cell BK102.out 1).trans rfl
                have hcz17_2 : wc.cell? ⟨gb102, 2, none⟩ = some (.int .i64 a0_2) := (blk_cell BK102.out 2).trans rfl
                have hcz17_3 : wc.cell? ⟨gb102, 3, none⟩ = some (.int .i64 a0_3) := (blk_cell BK102.out 3).trans rfl
                have hcz17_4 : wc.cell? ⟨gb102, 4, none⟩ = some (.int .i64 a0_4) := (blk_cell BK102.out 4).trans rfl
                have hcz17_5 : wc.cell? ⟨gb102, 5, none⟩ = some (.int .i64 a0_5) := (blk_cell BK102.out 5).trans rfl
                have hcz17_6 : wc.cell? ⟨gb102, 6, none⟩ = some (.int .i64 a0_6) := (blk_cell BK102.out 6).trans rfl
                have hcz17_7 : wc.cell? ⟨gb102, 7, none⟩ = some (.int .i64 a0_7) := (blk_cell BK102.out 7).trans rfl
                have hfz17_0 := blk_frozen BK102.out 0
                have hfz17_1 := blk_frozen BK102.out 1
                have hfz17_2 := blk_frozen BK102.out 2
                have hfz17_3 := blk_frozen BK102.out 3
                have hfz17_4 := blk_frozen BK102.out 4
                have hfz17_5 := blk_frozen BK102.out 5
                have hfz17_6 := blk_frozen BK102.out 6
                have hfz17_7 := blk_frozen BK102.out 7
                go_wp2
                go_meet
                case rel => exact ⟨_, (true), (by first | rfl | (simp; done) | (simp [*]; done)), H', ⟨by have := HJ1.out; have := HJ6.out; first | omega | exact Nat.le_refl _⟩, ⟨by (with_reducible repeat (first | refine blk_drewN ?_ _ | refine blk_drew ?_ | refine blk_alloc ?_ _)); exact BK102.out⟩, ⟨by repeat (first | (with_reducible first | exact HB.out | apply below_alloc | apply pw_below_drewN | apply below_drew1 | refine below_set ?_ GE102.out) | exact HB.out)⟩⟩
              · rw [if_neg c16] at H
                have c16b0 : decide (a0_1 < 1) = false := decide_eq_false c16
                clear c16
                (first | rw [c16b0] | (simp only [i64_w, i32_w]; rw [c16b0]) | skip)
                have H' := Aside0.mk H
                clear H
                have hcz18_0 : wc.cell? ⟨gb102, 0, none⟩ = some (.int .i64 a0_0) := (blk_cell BK102.out 0).trans rfl
                have hcz18_1 : wc.cell? ⟨gb102, 1, none⟩ = some (.int .i64 a0_1) := (blk_cell BK102.out 1).trans rfl
                have hcz18_2 : wc.cell? ⟨gb102, 2, none⟩ = some (.int .i64 a0_2) := (blk_cell BK102.out 2).trans rfl
                have hcz18_3 : wc.cell? ⟨gb102, 3, none⟩ = some (.int .i64 a0_3) := (blk_cell BK102.out 3).trans rfl
                have hcz18_4 : wc.cell? ⟨gb102, 4, none⟩ = some (.int .i64 a0_4) := (blk_cell BK102.out 4).trans rfl
                have hcz18_5 : wc.cell? ⟨gb102, 5, none⟩ = some (.int .i64 a0_5) := (blk_cell BK102.out 5).trans rfl
                have hcz18_6 : wc.cell? ⟨gb102, 6, none⟩ = some (.int .i64 a0_6) := (blk_cell BK102.out 6).trans rfl
                have hcz18_7 : wc.cell? ⟨gb102, 7, none⟩ = some (.int .i64 a0_7) := (blk_cell BK102.out 7).trans rfl
                have hfz18_0 := blk_frozen BK102.out 0
                have hfz18_1 := blk_frozen BK102.out 1
                have hfz18_2 := blk_frozen BK102.out 2
                have hfz18_3 := blk_frozen BK102.out 3
                have hfz18_4 := blk_frozen BK102.out 4
                have hfz18_5 := blk_frozen BK102.out 5
                have hfz18_6 := blk_frozen BK102.out 6
                have hfz18_7 := blk_frozen BK102.out 7
                go_wp2
                go_meet
                case rel => exact ⟨_, (decide (a0_1 > 1048576)), (by first | rfl | (simp; done) | (simp [*]; done)), H', ⟨by have := HJ1.out; have := HJ6.out; first | omega | exact Nat.le_refl _⟩, ⟨by (with_reducible repeat (first | refine blk_drewN ?_ _ | refine blk_drew ?_ | refine blk_alloc ?_ _)); exact BK102.out⟩, ⟨by repeat (first | (with_reducible first | exact HB.out | apply below_alloc | apply pw_below_drewN | apply below_drew1 | refine below_set ?_ GE102.out) | exact HB.out)⟩⟩
            case rest =>
              clear HC15
              try clear c1
              try clear p2
              try clear c4
              try clear c4b0
              try clear c6
              try clear c8
              try clear c9
              try clear c9b0
              try clear c11
              try clear c11b0
              try clear c14
              try clear c16
              try clear c16b0
              try clear hcz10_0
              try clear hcz10_1
              try clear hcz10_2
              try clear hcz10_3
              try clear hcz10_4
              try clear hcz10_5
              try clear hcz10_6
              try clear hcz10_7
              try clear hcz12_0
              try clear hcz12_1
              try clear hcz12_2
              try clear hcz12_3
              try clear hcz12_4
              try clear hcz12_5
              try clear hcz12_6
              try clear hcz12_7
              try clear hcz13_0
              try clear hcz13_1
              try clear hcz13_2
              try clear hcz13_3
              try clear hcz13_4
              try clear hcz13_5
              try clear hcz13_6
              try clear hcz13_7
              try clear hcz17_0
              try clear hcz17_1
              try clear hcz17_2
              try clear hcz17_3
              try clear hcz17_4
              try clear hcz17_5
              try clear hcz17_6
              try clear hcz17_7
              try clear hcz18_0
              try clear hcz18_1
              try clear hcz18_2
              try clear hcz18_3
              try clear hcz18_4
              try clear hcz18_5
              try clear hcz18_6
              try clear hcz18_7
              try clear hcz5_0
              try clear hcz5_1
              try clear hcz5_2
              try clear hcz5_3
              try clear hcz5_4
              try clear hcz5_5
              try clear hcz5_6
              try clear hcz5_7
              try clear hcz6_0
              try clear hcz6_1
              try clear hcz6_2
              try clear hcz6_3
              try clear hcz6_4
              try clear hcz6_5
              try clear hcz6_6
              try clear hcz6_7
              try clear hfz10_0
              try clear hfz10_1
              try clear hfz10_2
              try clear hfz10_3
              try clear hfz10_4
              try clear hfz10_5
              try clear hfz10_6
              try clear hfz10_7
              try clear hfz12_0
              try clear hfz12_1
              try clear hfz12_2
              try clear hfz12_3
              try clear hfz12_4
              try clear hfz12_5
              try clear hfz12_6
              try clear hfz12_7
              try clear hfz13_0
              try clear hfz13_1
              try clear hfz13_2
              try clear hfz13_3
              try clear hfz13_4
              try clear hfz13_5
              try clear hfz13_6
              try clear hfz13_7
              try clear hfz17_0
              try clear hfz17_1
              try clear hfz17_2
              try clear hfz17_3
              try clear hfz17_4
              try clear hfz17_5
              try clear hfz17_6
              try clear hfz17_7
              try clear hfz18_0
              try clear hfz18_1
              try clear hfz18_2
              try clear hfz18_3
              try clear hfz18_4
              try clear hfz18_5
              try clear hfz18_6
              try clear hfz18_7
              try clear hfz5_0
              try clear hfz5_1
              try clear hfz5_2
              try clear hfz5_3
              try clear hfz5_4
              try clear hfz5_5
              try clear hfz5_6
              try clear hfz5_7
              try clear hfz6_0
              try clear hfz6_1
              try clear hfz6_2
              try clear hfz6_3
              try clear hfz6_4
              try clear hfz6_5
              try clear hfz6_6
              try clear hfz6_7
              try clear p2
              obtain ⟨kq, x28_14, rfl, HA, HJ14, BK102, HB⟩ := hcut
              cases kq with
              | zero => exact absurd HA.out (by simp [item_Check.j2])
              | succ kj14 =>
                have H := HA.out
                clear HA
                simp only [item_Check.j2] at H
                have HC19 := Aside0.mk H
                clear H
                go_upto_if 28 with (fail)
                go_cut [28] (fun v28 wc => ∃ (kq : Nat) (x28_18 : Bool), v28 = .bool x28_18 ∧ Aside0 (item_Check.j3 kq x28_18 a0_0 a0_1 a0_2 a0_3 a0_4 a0_5 a0_6 a0_7 = some r) ∧ Aside0 (kq ≤ kj14) ∧ Aside0 (wc.heap[gb102]? = some (.cells #[.int .i64 a0_0, .int .i64 a0_1, .int .i64 a0_2, .int .i64 a0_3, .int .i64 a0_4, .int .i64 a0_5, .int .i64 a0_6, .int .i64 a0_7] 33 (0, 0))) ∧ Aside0 (Below w.heap.size w wc))
                case first =>
                  have H := HC19.out
                  clear HC19
                  by_cases c20 : x28_14 = true
                  · subst c20
                    have H1 : (item_Check.j3 kj14 true a0_0 a0_1 a0_2 a0_3 a0_4 a0_5 a0_6 a0_7) = some r := by rw [if_pos rfl] at H; exact H
                    clear H
                    have H := H1
                    clear H1
                    have H' := Aside0.mk H
                    clear H
                    go_wp2
                    go_meet
                    case rel => exact ⟨_, (true), (by first | rfl | (simp; done) | (simp [*]; done)), H', ⟨by have := HJ1.out; have := HJ6.out; have := HJ14.out; first | omega | exact Nat.le_refl _⟩, ⟨by (with_reducible repeat (first | refine blk_drewN ?_ _ | refine blk_drew ?_ | refine blk_alloc ?_ _)); exact BK102.out⟩, ⟨by repeat (first | (with_reducible first | exact HB.out | apply below_alloc | apply pw_below_drewN | apply below_drew1 | refine below_set ?_ GE102.out) | exact HB.out)⟩⟩
                  · replace c20 := Bool.eq_false_iff.mpr c20
                    subst c20
                    have H1 : (if a0_3 < 0 then (item_Check.j3 kj14 true a0_0 a0_1 a0_2 a0_3 a0_4 a0_5 a0_6 a0_7) else (item_Check.j3 kj14 (decide (a0_3 ≥ 8)) a0_0 a0_1 a0_2 a0_3 a0_4 a0_5 a0_6 a0_7)) = some r := by rw [if_neg (show ¬ (false = true) by decide)] at H; exact H
                    clear H
                    have H := H1
                    clear H1
                    by_cases c21 : a0_3 < 0
                    · rw [if_pos c21] at H
                      have c21b0 : decide (a0_3 < 0) = true := decide_eq_true c21
                      clear c21
                      (first | rw [c21b0] | (simp only [i64_w, i32_w]; rw [c21b0]) | skip)
                      have H' := Aside0.mk H
                      clear H
                      have hcz22_0 : wc.cell? ⟨gb102, 0, none⟩ = some (.int .i64 a0_0) := (blk_cell BK102.out 0).trans rfl
                      have hcz22_1 : wc.cell? ⟨gb102, 1, none⟩ = some (.int .i64 a0_1) := (blk_cell BK102.out 1).trans rfl
                      have hcz22_2 : wc.cell? ⟨gb102, 2, none⟩ = some (.int .i64 a0_2) := (blk_cell BK102.out 2).trans rfl
                      have hcz22_3 : wc.cell? ⟨gb102, 3, none⟩ = some (.int .i64 a0_3) := (blk_cell BK102.out 3).trans rfl
                      have hcz22_4 : wc.cell? ⟨gb102, 4, none⟩ = some (.int .i64 a0_4) := (blk_cell BK102.out 4).trans rfl
                      have hcz22_5 : wc.cell? ⟨gb102, 5, none⟩ = some (.int .i64 a0_5) := (blk_cell BK102.out 5).trans rfl
                      have hcz22_6 : wc.cell? ⟨gb102, 6, none⟩ = some (.int .i64 a0_6) := (blk_cell BK102.out 6).trans rfl
                      have hcz22_7 : wc.cell? ⟨gb102, 7, none⟩ = some (.int .i64 a0_7) := (blk_cell BK102.out 7).trans rfl
                      have hfz22_0 := blk_frozen BK102.out 0
                      have hfz22_1 := blk_frozen BK102.out 1
                      have hfz22_2 := blk_frozen BK102.out 2
                      have hfz22_3 := blk_frozen BK102.out 3
                      have hfz22_4 := blk_frozen BK102.out 4
                      have hfz22_5 := blk_frozen BK102.out 5
                      have hfz22_6 := blk_frozen BK102.out 6
                      have hfz22_7 := blk_frozen BK102.out 7
                      go_wp2
                      go_meet
                      case rel => exact ⟨_, (true), (by first | rfl | (simp; done) | (simp [*]; done)), H', ⟨by have := HJ1.out; have := HJ6.out; have := HJ14.out; first | omega | exact Nat.le_refl _⟩, ⟨by (with_reducible repeat (first | refine blk_drewN ?_ _ | refine blk_drew ?_ | refine blk_alloc ?_ _)); exact BK102.out⟩, ⟨by repeat (first | (with_reducible first | exact HB.out | apply below_alloc | apply pw_below_drewN | apply below_drew1 | refine below_set ?_ GE102.out) | exact HB.out)⟩⟩
                    · rw [if_neg c21] at H
                      have c21b0 : decide (a0_3 < 0) = false := decide_eq_false c21
                      clear c21
                      (first | rw [c21b0] | (simp only [i64_w, i32_w]; rw [c21b0]) | skip)
                      have H' := Aside0.mk H
                      clear H
                      have hcz23_0 : wc.cell? ⟨gb102, 0, none⟩ = some (.int .i64 a0_0) := (blk_cell BK102.out 0).trans rfl
                      have hcz23_1 : wc.cell? ⟨gb102, 1, none⟩ = some (.int .i64 a0_1) := (blk_cell BK102.out 1).trans rfl
                      have hcz23_2 : wc.cell? ⟨gb102, 2, none⟩ = some (.int .i64 a0_2) := (blk_cell BK102.out 2).trans rfl
                      have hcz23_3 : wc.cell? ⟨gb102, 3, none⟩ = some (.int .i64 a0_3) := (blk_cell BK102.out 3).trans rfl
                      have hcz23_4 : wc.cell? ⟨gb102, 4, none⟩ = some (.int .i64 a0_4) := (blk_cell BK102.out 4).trans rfl
                      have hcz23_5 : wc.cell? ⟨gb102, 5, none⟩ = some (.int .i64 a0_5) := (blk_cell BK102.out 5).trans rfl
                      have hcz23_6 : wc.cell? ⟨gb102, 6, none⟩ = some (.int .i64 a0_6) := (blk_cell BK102.out 6).trans rfl
                      have hcz23_7 : wc.cell? ⟨gb102, 7, none⟩ = some (.int .i64 a0_7) := (blk_cell BK102.out 7).trans rfl
                      have hfz23_0 := blk_frozen BK102.out 0
                      have hfz23_1 := blk_frozen BK102.out 1
                      have hfz23_2 := blk_frozen BK102.out 2
                      have hfz23_3 := blk_frozen BK102.out 3
                      have hfz23_4 := blk_frozen BK102.out 4
                      have hfz23_5 := blk_frozen BK102.out 5
                      have hfz23_6 := blk_frozen BK102.out 6
                      have hfz23_7 := blk_frozen BK102.out 7
                      go_wp2
                      go_meet
                      case rel => exact ⟨_, (decide (a0_3 ≥ 8)), (by first | rfl | (simp; done) | (simp [*]; done)), H', ⟨by have := HJ1.out; have := HJ6.out; have := HJ14.out; first | omega | exact Nat.le_refl _⟩, ⟨by (with_reducible repeat (first | refine blk_drewN ?_ _ | refine blk_drew ?_ | refine blk_alloc ?_ _)); exact BK102.out⟩, ⟨by repeat (first | (with_reducible first | exact HB.out | apply below_alloc | apply pw_below_drewN | apply below_drew1 | refine below_set ?_ GE102.out) | exact HB.out)⟩⟩
                case rest =>
                  clear HC19
                  try clear c1
                  try clear c2
                  try clear p2
                  try clear c4
                  try clear c4b0
                  try clear c6
                  try clear c8
                  try clear c9
                  try clear c9b0
                  try clear c11
                  try clear c11b0
                  try clear c14
                  try clear c16
                  try clear c16b0
                  try clear c20
                  try clear c21
                  try clear c21b0
                  try clear hcz10_0
                  try clear hcz10_1
                  try clear hcz10_2
                  try clear hcz10_3
                  try clear hcz10_4
                  try clear hcz10_5
                  try clear hcz10_6
                  try clear hcz10_7
                  try clear hcz12_0
                  try clear hcz12_1
                  try clear hcz12_2
                  try clear hcz12_3
                  try clear hcz12_4
                  try clear hcz12_5
                  try clear hcz12_6
                  try clear hcz12_7
                  try clear hcz13_0
                  try clear hcz13_1
                  try clear hcz13_2
                  try clear hcz13_3
                  try clear hcz13_4
                  try clear hcz13_5
                  try clear hcz13_6
                  try clear hcz13_7
                  try clear hcz17_0
                  try clear hcz17_1
                  try clear hcz17_2
                  try clear hcz17_3
                  try clear hcz17_4
                  try clear hcz17_5
                  try clear hcz17_6
                  try clear hcz17_7
                  try clear hcz18_0
                  try clear hcz18_1
                  try clear hcz18_2
                  try clear hcz18_3
                  try clear hcz18_4
                  try clear hcz18_5
                  try clear hcz18_6
                  try clear hcz18_7
                  try clear hcz22_0
                  try clear hcz22_1
                  try clear hcz22_2
                  try clear hcz22_3
                  try clear hcz22_4
                  try clear hcz22_5
                  try clear hcz22_6
                  try clear hcz22_7
                  try clear hcz23_0
                  try clear hcz23_1
                  try clear hcz23_2
                  try clear hcz23_3
                  try clear hcz23_4
                  try clear hcz23_5
                  try clear hcz23_6
                  try clear hcz23_7
                  try clear hcz5_0
                  try clear hcz5_1
                  try clear hcz5_2
                  try clear hcz5_3
                  try clear hcz5_4
                  try clear hcz5_5
                  try clear hcz5_6
                  try clear hcz5_7
                  try clear hcz6_0
                  try clear hcz6_1
                  try clear hcz6_2
                  try clear hcz6_3
                  try clear hcz6_4
                  try clear hcz6_5
                  try clear hcz6_6
                  try clear hcz6_7
                  try clear hfz10_0
                  try clear hfz10_1
                  try clear hfz10_2
                  try clear hfz10_3
                  try clear hfz10_4
                  try clear hfz10_5
                  try clear hfz10_6
                  try clear hfz10_7
                  try clear hfz12_0
                  try clear hfz12_1
                  try clear hfz12_2
                  try clear hfz12_3
                  try clear hfz12_4
                  try clear hfz12_5
                  try clear hfz12_6
                  try clear hfz12_7
                  try clear hfz13_0
                  try clear hfz13_1
                  try clear hfz13_2
                  try clear hfz13_3
                  try clear hfz13_4
                  try clear hfz13_5
                  try clear hfz13_6
                  try clear hfz13_7
                  try clear hfz17_0
                  try clear hfz17_1
                  try clear hfz17_2
                  try clear hfz17_3
                  try clear hfz17_4
                  try clear hfz17_5
                  try clear hfz17_6
                  try clear hfz17_7
                  try clear hfz18_0
                  try clear hfz18_1
                  try clear hfz18_2
                  try clear hfz18_3
                  try clear hfz18_4
                  try clear hfz18_5
                  try clear hfz18_6
                  try clear hfz18_7
                  try clear hfz22_0
                  try clear hfz22_1
                  try clear hfz22_2
                  try clear hfz22_3
                  try clear hfz22_4
                  try clear hfz22_5
                  try clear hfz22_6
                  try clear hfz22_7
                  try clear hfz23_0
                  try clear hfz23_1
                  try clear hfz23_2
                  try clear hfz23_3
                  try clear hfz23_4
                  try clear hfz23_5
                  try clear hfz23_6
                  try clear hfz23_7
                  try clear hfz5_0
                  try clear hfz5_1
                  try clear hfz5_2
                  try clear hfz5_3
                  try clear hfz5_4
                  try clear hfz5_5
                  try clear hfz5_6
                  try clear hfz5_7
                  try clear hfz6_0
                  try clear hfz6_1
                  try clear hfz6_2
                  try clear hfz6_3
                  try clear hfz6_4
                  try clear hfz6_5
                  try clear hfz6_6
                  try clear hfz6_7
                  try clear p2
                  obtain ⟨kq, x28_18, rfl, HA, HJ18, BK102, HB⟩ := hcut
                  cases kq with
                  | zero => exact absurd HA.out (by simp [item_Check.j3])
                  | succ kj18 =>
                    have H := HA.out
                    clear HA
                    simp only [item_Check.j3] at H
                    by_cases c24 : x28_18 = true
                    · subst c24
                      have H1 : (some 1) = some r := by rw [if_pos rfl] at H; exact H
                      clear H
                      have H := H1
                      clear H1
                      obtain rfl := Option.some.inj H
                      go_wp2
                      go_ret
                      exact ⟨by first | rfl | (simp [errW_none, errW_some] <;> rfl) | (simp [*, errW_none, errW_some] <;> rfl), by repeat (first | (with_reducible first | exact HB.out | apply below_alloc | apply pw_below_drewN | apply below_drew1 | refine below_set ?_ GE102.out) | exact HB.out)⟩
                    · replace c24 := Bool.eq_false_iff.mpr c24
                      subst c24
                      have H1 : (if a0_4 < 1 then (item_Check.j4 kj18 true a0_0 a0_1 a0_2 a0_3 a0_4 a0_5 a0_6 a0_7) else (item_Check.j4 kj18 (decide (a0_4 > 1125899906842624)) a0_0 a0_1 a0_2 a0_3 a0_4 a0_5 a0_6 a0_7)) = some r := by rw [if_neg (show ¬ (false = true) by decide)] at H; exact H
                      clear H
                      have H := H1
                      clear H1
                      have HC25 := Aside0.mk H
                      clear H
                      go_upto_region 8 with (fail)
                      go_cut [47] (fun v47 wc => ∃ (kq : Nat) (x47_24 : Bool), v47 = .bool x47_24 ∧ Aside0 (item_Check.j4 kq x47_24 a0_0 a0_1 a0_2 a0_3 a0_4 a0_5 a0_6 a0_7 = some r) ∧ Aside0 (kq ≤ kj18) ∧ Aside0 (wc.heap[gb102]? = some (.cells #[.int .i64 a0_0, .int .i64 a0_1, .int .i64 a0_2, .int .i64 a0_3, .int .i64 a0_4, .int .i64 a0_5, .int .i64 a0_6, .int .i64 a0_7] 33 (0, 0))) ∧ Aside0 (Below w.heap.size w wc))
                      case first =>
                        have H := HC25.out
                        clear HC25
                        by_cases c26 : a0_4 < 1
                        · rw [if_pos c26] at H
                          have c26b0 : decide (a0_4 < 1) = true := decide_eq_true c26
                          clear c26
                          (first | rw [c26b0] | (simp only [i64_w, i32_w]; rw [c26b0]) | skip)
                          have H' := Aside0.mk H
                          clear H
                          have hcz27_0 : wc.cell? ⟨gb102, 0, none⟩ = some (.int .i64 a0_0) := (blk_cell BK102.out 0).trans rfl
                          have hcz27_1 : wc.cell? ⟨gb102, 1, none⟩ = some (.int .i64 a0_1) := (blk_cell BK102.out 1).trans rfl
                          have hcz27_2 : wc.cell? ⟨gb102, 2, none⟩ = some (.int .i64 a0_2) := (blk_cell BK102.out 2).trans rfl
                          have hcz27_3 : wc.cell? ⟨gb102, 3, none⟩ = some (.int .i64 a0_3) := (blk_cell BK102.out 3).trans rfl
                          have hcz27_4 : wc.cell? ⟨gb102, 4, none⟩ = some (.int .i64 a0_4) := (blk_cell BK102.out 4).trans rfl
                          have hcz27_5 : wc.cell? ⟨gb102, 5, none⟩ = some (.int .i64 a0_5) := (blk_cell BK102.out 5).trans rfl
                          have hcz27_6 : wc.cell? ⟨gb102, 6, none⟩ = some (.int .i64 a0_6) := (blk_cell BK102.out 6).trans rfl
                          have hcz27_7 : wc.cell? ⟨gb102, 7, none⟩ = some (.int .i64 a0_7) := (blk_cell BK102.out 7).trans rfl
                          have hfz27_0 := blk_frozen BK102.out 0
                          have hfz27_1 := blk_frozen BK102.out 1
                          have hfz27_2 := blk_frozen BK102.out 2
                          have hfz27_3 := blk_frozen BK102.out 3
                          have hfz27_4 := blk_frozen BK102.out 4
                          have hfz27_5 := blk_frozen BK102.out 5
                          have hfz27_6 := blk_frozen BK102.out 6
                          have hfz27_7 := blk_frozen BK102.out 7
                          go_wp2
                          go_meet
                          case rel => exact ⟨_, (true), (by first | rfl | (simp; done) | (simp [*]; done)), H', ⟨by have := HJ1.out; have := HJ6.out; have := HJ14.out; have := HJ18.out; first | omega | exact Nat.le_refl _⟩, ⟨by (with_reducible repeat (first | refine blk_drewN ?_ _ | refine blk_drew ?_ | refine blk_alloc ?_ _)); exact BK102.out⟩, ⟨by repeat (first | (with_reducible first | exact HB.out | apply below_alloc | apply pw_below_drewN | apply below_drew1 | refine below_set ?_ GE102.out) | exact HB.out)⟩⟩
                        · rw [if_neg c26] at H
                          have c26b0 : decide (a0_4 < 1) = false := decide_eq_false c26
                          clear c26
                          (first | rw [c26b0] | (simp only [i64_w, i32_w]; rw [c26b0]) | skip)
                          have H' := Aside0.mk H
                          clear H
                          have hcz28_0 : wc.cell? ⟨gb102, 0, none⟩ = some (.int .i64 a0_0) := (blk_cell BK102.out 0).trans rfl
                          have hcz28_1 : wc.cell? ⟨gb102, 1, none⟩ = some (.int .i64 a0_1) := (blk_cell BK102.out 1).trans rfl
                          have hcz28_2 : wc.cell? ⟨gb102, 2, none⟩ = some (.int .i64 a0_2) := (blk_cell BK102.out 2).trans rfl
                          have hcz28_3 : wc.cell? ⟨gb102, 3, none⟩ = some (.int .i64 a0_3) := (blk_cell BK102.out 3).trans rfl
                          have hcz28_4 : wc.cell? ⟨gb102, 4, none⟩ = some (.int .i64 a0_4) := (blk_cell BK102.out 4).trans rfl
                          have hcz28_5 : wc.cell? ⟨gb102, 5, none⟩ = some (.int .i64 a0_5) := (blk_cell BK102.out 5).trans rfl
                          have hcz28_6 : wc.cell? ⟨gb102, 6, none⟩ = some (.int .i64 a0_6) := (blk_cell BK102.out 6).trans rfl
                          have hcz28_7 : wc.cell? ⟨gb102, 7, none⟩ = some (.int .i64 a0_7) := (blk_cell BK102.out 7).trans rfl
                          have hfz28_0 := blk_frozen BK102.out 0
                          have hfz28_1 := blk_frozen BK102.out 1
                          have hfz28_2 := blk_frozen BK102.out 2
                          have hfz28_3 := blk_frozen BK102.out 3
                          have hfz28_4 := blk_frozen BK102.out 4
                          have hfz28_5 := blk_frozen BK102.out 5
                          have hfz28_6 := blk_frozen BK102.out 6
                          have hfz28_7 := blk_frozen BK102.out 7
                          go_wp2
                          go_meet
                          case rel => exact ⟨_, (decide (a0_4 > 1125899906842624)), (by first | rfl | (simp; done) | (simp [*]; done)), H', ⟨by have := HJ1.out; have := HJ6.out; have := HJ14.out; have := HJ18.out; first | omega | exact Nat.le_refl _⟩, ⟨by (with_reducible repeat (first | refine blk_drewN ?_ _ | refine blk_drew ?_ | refine blk_alloc ?_ _)); exact BK102.out⟩, ⟨by repeat (first | (with_reducible first | exact HB.out | apply below_alloc | apply pw_below_drewN | apply below_drew1 | refine below_set ?_ GE102.out) | exact HB.out)⟩⟩
                      case rest =>
                        clear HC25
                        try clear c1
                        try clear c2
                        try clear p2
                        try clear c4
                        try clear c4b0
                        try clear c6
                        try clear c8
                        try clear c9
                        try clear c9b0
                        try clear c11
                        try clear c11b0
                        try clear c14
                        try clear c16
                        try clear c16b0
                        try clear c20
                        try clear c21
                        try clear c21b0
                        try clear c24
                        try clear c26
                        try clear c26b0
                        try clear hcz10_0
                        try clear hcz10_1
                        try clear hcz10_2
                        try clear hcz10_3
                        try clear hcz10_4
                        try clear hcz10_5
                        try clear hcz10_6
                        try clear hcz10_7
                        try clear hcz12_0
                        try clear hcz12_1
                        try clear hcz12_2
                        try clear hcz12_3
                        try clear hcz12_4
                        try clear hcz12_5
                        try clear hcz12_6
                        try clear hcz12_7
                        try clear hcz13_0
                        try clear hcz13_1
                        try clear hcz13_2
                        try clear hcz13_3
                        try clear hcz13_4
                        try clear hcz13_5
                        try clear hcz13_6
                        try clear hcz13_7
                        try clear hcz17_0
                        try clear hcz17_1
                        try clear hcz17_2
                        try clear hcz17_3
                        try clear hcz17_4
                        try clear hcz17_5
                        try clear hcz17_6
                        try clear hcz17_7
                        try clear hcz18_0
                        try clear hcz18_1
                        try clear hcz18_2
                        try clear hcz18_3
                        try clear hcz18_4
                        try clear hcz18_5
                        try clear hcz18_6
                        try clear hcz18_7
                        try clear hcz22_0
                        try clear hcz22_1
                        try clear hcz22_2
                        try clear hcz22_3
                        try clear hcz22_4
                        try clear hcz22_5
                        try clear hcz22_6
                        try clear hcz22_7
                        try clear hcz23_0
                        try clear hcz23_1
                        try clear hcz23_2
                        try clear hcz23_3
                        try clear hcz23_4
                        try clear hcz23_5
                        try clear hcz23_6
                        try clear hcz23_7
                        try clear hcz27_0
                        try clear hcz27_1
                        try clear hcz27_2
                        try clear hcz27_3
                        try clear hcz27_4
                        try clear hcz27_5
                        try clear hcz27_6
                        try clear hcz27_7
                        try clear hcz28_0
                        try clear hcz28_1
                        try clear hcz28_2
                        try clear hcz28_3
                        try clear hcz28_4
                        try clear hcz28_5
                        try clear hcz28_6
                        try clear hcz28_7
                        try clear hcz5_0
                        try clear hcz5_1
                        try clear hcz5_2
                        try clear hcz5_3
                        try clear hcz5_4
                        try clear hcz5_5
                        try clear hcz5_6
                        try clear hcz5_7
                        try clear hcz6_0
                        try clear hcz6_1
                        try clear hcz6_2
                        try clear hcz6_3
                        try clear hcz6_4
                        try clear hcz6_5
                        try clear hcz6_6
                        try clear hcz6_7
                        try clear hfz10_0
                        try clear hfz10_1
                        try clear hfz10_2
                        try clear hfz10_3
                        try clear hfz10_4
                        try clear hfz10_5
                        try clear hfz10_6
                        try clear hfz10_7
                        try clear hfz12_0
                        try clear hfz12_1
                        try clear hfz12_2
                        try clear hfz12_3
                        try clear hfz12_4
                        try clear hfz12_5
                        try clear hfz12_6
                        try clear hfz12_7
                        try clear hfz13_0
                        try clear hfz13_1
                        try clear hfz13_2
                        try clear hfz13_3
                        try clear hfz13_4
                        try clear hfz13_5
                        try clear hfz13_6
                        try clear hfz13_7
                        try clear hfz17_0
                        try clear hfz17_1
                        try clear hfz17_2
                        try clear hfz17_3
                        try clear hfz17_4
                        try clear hfz17_5
                        try clear hfz17_6
                        try clear hfz17_7
                        try clear hfz18_0
                        try clear hfz18_1
                        try clear hfz18_2
                        try clear hfz18_3
                        try clear hfz18_4
                        try clear hfz18_5
                        try clear hfz18_6
                        try clear hfz18_7
                        try clear hfz22_0
                        try clear hfz22_1
                        try clear hfz22_2
                        try clear hfz22_3
                        try clear hfz22_4
                        try clear hfz22_5
                        try clear hfz22_6
                        try clear hfz22_7
                        try clear hfz23_0
                        try clear hfz23_1
                        try clear hfz23_2
                        try clear hfz23_3
                        try clear hfz23_4
                        try clear hfz23_5
                        try clear hfz23_6
                        try clear hfz23_7
                        try clear hfz27_0
                        try clear hfz27_1
                        try clear hfz27_2
                        try clear hfz27_3
                        try clear hfz27_4
                        try clear hfz27_5
                        try clear hfz27_6
                        try clear hfz27_7
                        try clear hfz28_0
                        try clear hfz28_1
                        try clear hfz28_2
                        try clear hfz28_3
                        try clear hfz28_4
                        try clear hfz28_5
                        try clear hfz28_6
                        try clear hfz28_7
                        try clear hfz5_0
                        try clear hfz5_1
                        try clear hfz5_2
                        try clear hfz5_3
                        try clear hfz5_4
                        try clear hfz5_5
                        try clear hfz5_6
                        try clear hfz5_7
                        try clear hfz6_0
                        try clear hfz6_1
                        try clear hfz6_2
                        try clear hfz6_3
                        try clear hfz6_4
                        try clear hfz6_5
                        try clear hfz6_6
                        try clear hfz6_7
                        try clear p2
                        obtain ⟨kq, x47_24, rfl, HA, HJ24, BK102, HB⟩ := hcut
                        cases kq with
                        | zero => exact absurd HA.out (by simp [item_Check.j4])
                        | succ kj24 =>
                          have H := HA.out
                          clear HA
                          simp only [item_Check.j4] at H
                          have HC29 := Aside0.mk H
                          clear H
                          go_upto_if 47 with (fail)
                          go_cut [47] (fun v47 wc => ∃ (kq : Nat) (x47_28 : Bool), v47 = .bool x47_28 ∧ Aside0 (item_Check.j5 kq x47_28 a0_0 a0_1 a0_2 a0_3 a0_4 a0_5 a0_6 a0_7 = some r) ∧ Aside0 (kq ≤ kj24) ∧ Aside0 (wc.heap[gb102]? = some (.cells #[.int .i64 a0_0, .int .i64 a0_1, .int .i64 a0_2, .int .i64 a0_3, .int .i64 a0_4, .int .i64 a0_5, .int .i64 a0_6, .int .i64 a0_7] 33 (0, 0))) ∧ Aside0 (Below w.heap.size w wc))
                          case first =>
                            have H := HC29.out
                            clear HC29
                            by_cases c30 : x47_24 = true
                            · subst c30
                              have H1 : (item_Check.j5 kj24 true a0_0 a0_1 a0_2 a0_3 a0_4 a0_5 a0_6 a0_7) = some r := by rw [if_pos rfl] at H; exact H
                              clear H
                              have H := H1
                              clear H1
                              have H' := Aside0.mk H
                              clear H
                              go_wp2
                              go_meet
                              case rel => exact ⟨_, (true), (by first | rfl | (simp; done) | (simp [*]; done)), H', ⟨by have := HJ1.out; have := HJ6.out; have := HJ14.out; have := HJ18.out; have := HJ24.out; first | omega | exact Nat.le_refl _⟩, ⟨by (with_reducible repeat (first | refine blk_drewN ?_ _ | refine blk_drew ?_ | refine blk_alloc ?_ _)); exact BK102.out⟩, ⟨by repeat (first | (with_reducible first | exact HB.out | apply below_alloc | apply pw_below_drewN | apply below_drew1 | refine below_set ?_ GE102.out) | exact HB.out)⟩⟩
                            · replace c30 := Bool.eq_false_iff.mpr c30
                              subst c30
                              have H1 : (if a0_5 < 0 then (item_Check.j5 kj24 true a0_0 a0_1 a0_2 a0_3 a0_4 a0_5 a0_6 a0_7) else (item_Check.j5 kj24 (decide (a0_5 > 3)) a0_0 a0_1 a0_2 a0_3 a0_4 a0_5 a0_6 a0_7)) = some r := by rw [if_neg (show ¬ (false = true) by decide)] at H; exact H
                              clear H
                              have H := H1
                              clear H1
                              by_cases c31 : a0_5 < 0
                              · rw [if_pos c31] at H
                                have c31b0 : decide (a0_5 < 0) = true := decide_eq_true c31
                                clear c31
                                (first | rw [c31b0] | (simp only [i64_w, i32_w]; rw [c31b0]) | skip)
                                have H' := Aside0.mk H
                                clear H
                                have hcz32_0 : wc.cell? ⟨gb102, 0, none⟩ = some (.int .i64 a0_0) := (blk_cell BK102.out 0).trans rfl
                                have hcz32_1 : wc.cell? ⟨gb102, 1, none⟩ = some (.int .i64 a0_1) := (blk_cell BK102.out 1).trans rfl
                                have hcz32_2 : wc.cell? ⟨gb102, 2, none⟩ = some (.int .i64 a0_2) := (blk_cell BK102.out 2).trans rfl
                                have hcz32_3 : wc.cell? ⟨gb102, 3, none⟩ = some (.int .i64 a0_3) := (blk_cell BK102.out 3).trans rfl
                                have hcz32_4 : wc.cell? ⟨gb102, 4, none⟩ = some (.int .i64 a0_4) := (blk_cell BK102.out 4).trans rfl
                                have hcz32_5 : wc.cell? ⟨gb102, 5, none⟩ = some (.int .i64 a0_5) := (blk_cell BK102.out 5).trans rfl
                                have hcz32_6 : wc.cell? ⟨gb102, 6, none⟩ = some (.int .i64 a0_6) := (blk_cell BK102.out 6).trans rfl
                                have hcz32_7 : wc.cell? ⟨gb102, 7, none⟩ = some (.int .i64 a0_7) := (blk_cell BK102.out 7).trans rfl
                                have hfz32_0 := blk_frozen BK102.out 0
                                have hfz32_1 := blk_frozen BK102.out 1
                                have hfz32_2 := blk_frozen BK102.out 2
                                have hfz32_3 := blk_frozen BK102.out 3
                                have hfz32_4 := blk_frozen BK102.out 4
                                have hfz32_5 := blk_frozen BK102.out 5
                                have hfz32_6 := blk_frozen BK102.out 6
                                have hfz32_7 := blk_frozen BK102.out 7
                                go_wp2
                                go_meet
                                case rel => exact ⟨_, (true), (by first | rfl | (simp; done) | (simp [*]; done)), H', ⟨by have := HJ1.out; have := HJ6.out; have := HJ14.out; have := HJ18.out; have := HJ24.out; first | omega | exact Nat.le_refl _⟩, ⟨by (with_reducible repeat (first | refine blk_drewN ?_ _ | refine blk_drew ?_ | refine blk_alloc ?_ _)); exact BK102.out⟩, ⟨by repeat (first | (with_reducible first | exact HB.out | apply below_alloc | apply pw_below_drewN | apply below_drew1 | refine below_set ?_ GE102.out) | exact HB.out)⟩⟩
                              · rw [if_neg c31] at H
                                have c31b0 : decide (a0_5 < 0) = false := decide_eq_false c31
                                clear c31
                                (first | rw [c31b0] | (simp only [i64_w, i32_w]; rw [c31b0]) | skip)
                                have H' := Aside0.mk H
                                clear H
                                have hcz33_0 : wc.cell? ⟨gb102, 0, none⟩ = some (.int .i64 a0_0) := (blk_cell BK102.out 0).trans rfl
                                have hcz33_1 : wc.cell? ⟨gb102, 1, none⟩ = some (.int .i64 a0_1) := (blk_cell BK102.out 1).trans rfl
                                have hcz33_2 : wc.cell? ⟨gb102, 2, none⟩ = some (.int .i64 a0_2) := (blk_cell BK102.out 2).trans rfl
                                have hcz33_3 : wc.cell? ⟨gb102, 3, none⟩ = some (.int .i64 a0_3) := (blk_cell BK102.out 3).trans rfl
                                have hcz33_4 : wc.cell? ⟨gb102, 4, none⟩ = some (.int .i64 a0_4) := (blk_cell BK102.out 4).trans rfl
                                have hcz33_5 : wc.cell? ⟨gb102, 5, none⟩ = some (.int .i64 a0_5) := (blk_cell BK102.out 5).trans rfl
                                have hcz33_6 : wc.cell? ⟨gb102, 6, none⟩ = some (.int .i64 a0_6) := (blk_cell BK102.out 6).trans rfl
                                have hcz33_7 : wc.cell? ⟨gb102, 7, none⟩ = some (.int .i64 a0_7) := (blk_cell BK102.out 7).trans rfl
                                have hfz33_0 := blk_frozen BK102.out 0
                                have hfz33_1 := blk_frozen BK102.out 1
                                have hfz33_2 := blk_frozen BK102.out 2
                                have hfz33_3 := blk_frozen BK102.out 3
                                have hfz33_4 := blk_frozen BK102.out 4
                                have hfz33_5 := blk_frozen BK102.out 5
                                have hfz33_6 := blk_frozen BK102.out 6
                                have hfz33_7 := blk_frozen BK102.out 7
                                go_wp2
                                go_meet
                                case rel => exact ⟨_, (decide (a0_5 > 3)), (by first | rfl | (simp; done) | (simp [*]; done)), H', ⟨by have := HJ1.out; have := HJ6.out; have := HJ14.out; have := HJ18.out; have := HJ24.out; first | omega | exact Nat.le_refl _⟩, ⟨by (with_reducible repeat (first | refine blk_drewN ?_ _ | refine blk_drew ?_ | refine blk_alloc ?_ _)); exact BK102.out⟩, ⟨by repeat (first | (with_reducible first | exact HB.out | apply below_alloc | apply pw_below_drewN | apply below_drew1 | refine below_set ?_ GE102.out) | exact HB.out)⟩⟩
                          case rest =>
                            clear HC29
                            try clear c1
                            try clear c2
                            try clear p2
                            try clear c3
                            try clear c4
                            try clear c4b0
                            try clear c6
                            try clear c8
                            try clear c9
                            try clear c9b0
                            try clear c11
                            try clear c11b0
                            try clear c14
                            try clear c16
                            try clear c16b0
                            try clear c20
                            try clear c21
                            try clear c21b0
                            try clear c24
                            try clear c26
                            try clear c26b0
                            try clear c30
                            try clear c31
                            try clear c31b0
                            try clear hcz10_0
                            try clear hcz10_1
                            try clear hcz10_2
                            try clear hcz10_3
                            try clear hcz10_4
                            try clear hcz10_5
                            try clear hcz10_6
                            try clear hcz10_7
                            try clear hcz12_0
                            try clear hcz12_1
                            try clear hcz12_2
                            try clear hcz12_3
                            try clear hcz12_4
                            try clear hcz12_5
                            try clear hcz12_6
                            try clear hcz12_7
                            try clear hcz13_0
                            try clear hcz13_1
                            try clear hcz13_2
                            try clear hcz13_3
                            try clear hcz13_4
                            try clear hcz13_5
                            try clear hcz13_6
                            try clear hcz13_7
                            try clear hcz17_0
                            try clear hcz17_1
                            try clear hcz17_2
                            try clear hcz17_3
                            try clear hcz17_4
                            try clear hcz17_5
                            try clear hcz17_6
                            try clear hcz17_7
                            try clear hcz18_0
                            try clear hcz18_1
                            try clear hcz18_2
                            try clear hcz18_3
                            try clear hcz18_4
                            try clear hcz18_5
                            try clear hcz18_6
                            try clear hcz18_7
                            try clear hcz22_0
                            try clear hcz22_1
                            try clear hcz22_2
                            try clear hcz22_3
                            try clear hcz22_4
                            try clear hcz22_5
                            try clear hcz22_6
                            try clear hcz22_7
                            try clear hcz23_0
                            try clear hcz23_1
                            try clear hcz23_2
                            try clear hcz23_3
                            try clear hcz23_4
                            try clear hcz23_5
                            try clear hcz23_6
                            try clear hcz23_7
                            try clear hcz27_0
                            try clear hcz27_1
                            try clear hcz27_2
                            try clear hcz27_3
                            try clear hcz27_4
                            try clear hcz27_5
                            try clear hcz27_6
                            try clear hcz27_7
                            try clear hcz28_0
                            try clear hcz28_1
                            try clear hcz28_2
                            try clear hcz28_3
                            try clear hcz28_4
                            try clear hcz28_5
                            try clear hcz28_6
                            try clear hcz28_7
                            try clear hcz32_0
                            try clear hcz32_1
                            try clear hcz32_2
                            try clear hcz32_3
                            try clear hcz32_4
                            try clear hcz32_5
                            try clear hcz32_6
                            try clear hcz32_7
                            try clear hcz33_0
                            try clear hcz33_1
                            try clear hcz33_2
                            try clear hcz33_3
                            try clear hcz33_4
                            try clear hcz33_5
                            try clear hcz33_6
                            try clear hcz33_7
                            try clear hcz5_0
                            try clear hcz5_1
                            try clear hcz5_2
                            try clear hcz5_3
                            try clear hcz5_4
                            try clear hcz5_5
                            try clear hcz5_6
                            try clear hcz5_7
                            try clear hcz6_0
                            try clear hcz6_1
                            try clear hcz6_2
                            try clear hcz6_3
                            try clear hcz6_4
                            try clear hcz6_5
                            try clear hcz6_6
                            try clear hcz6_7
                            try clear hfz10_0
                            try clear hfz10_1
                            try clear hfz10_2
                            try clear hfz10_3
                            try clear hfz10_4
                            try clear hfz10_5
                            try clear hfz10_6
                            try clear hfz10_7
                            try clear hfz12_0
                            try clear hfz12_1
                            try clear hfz12_2
                            try clear hfz12_3
                            try clear hfz12_4
                            try clear hfz12_5
                            try clear hfz12_6
                            try clear hfz12_7
                            try clear hfz13_0
                            try clear hfz13_1
                            try clear hfz13_2
                            try clear hfz13_3
                            try clear hfz13_4
                            try clear hfz13_5
                            try clear hfz13_6
                            try clear hfz13_7
                            try clear hfz17_0
                            try clear hfz17_1
                            try clear hfz17_2
                            try clear hfz17_3
                            try clear hfz17_4
                            try clear hfz17_5
                            try clear hfz17_6
                            try clear hfz17_7
                            try clear hfz18_0
                            try clear hfz18_1
                            try clear hfz18_2
                            try clear hfz18_3
                            try clear hfz18_4
                            try clear hfz18_5
                            try clear hfz18_6
                            try clear hfz18_7
                            try clear hfz22_0
                            try clear hfz22_1
                            try clear hfz22_2
                            try clear hfz22_3
                            try clear hfz22_4
                            try clear hfz22_5
                            try clear hfz22_6
                            try clear hfz22_7
                            try clear hfz23_0
                            try clear hfz23_1
                            try clear hfz23_2
                            try clear hfz23_3
                            try clear hfz23_4
                            try clear hfz23_5
                            try clear hfz23_6
                            try clear hfz23_7
                            try clear hfz27_0
                            try clear hfz27_1
                            try clear hfz27_2
                            try clear hfz27_3
                            try clear hfz27_4
                            try clear hfz27_5
                            try clear hfz27_6
                            try clear hfz27_7
                            try clear hfz28_0
                            try clear hfz28_1
                            try clear hfz28_2
                            try clear hfz28_3
                            try clear hfz28_4
                            try clear hfz28_5
                            try clear hfz28_6
                            try clear hfz28_7
                            try clear hfz32_0
                            try clear hfz32_1
                            try clear hfz32_2
                            try clear hfz32_3
                            try clear hfz32_4
                            try clear hfz32_5
                            try clear hfz32_6
                            try clear hfz32_7
                            try clear hfz33_0
                            try clear hfz33_1
                            try clear hfz33_2
                            try clear hfz33_3
                            try clear hfz33_4
                            try clear hfz33_5
                            try clear hfz33_6
                            try clear hfz33_7
                            try clear hfz5_0
                            try clear hfz5_1
                            try clear hfz5_2
                            try clear hfz5_3
                            try clear hfz5_4
                            try clear hfz5_5
                            try clear hfz5_6
                            try clear hfz5_7
                            try clear hfz6_0
                            try clear hfz6_1
                            try clear hfz6_2
                            try clear hfz6_3
                            try clear hfz6_4
                            try clear hfz6_5
                            try clear hfz6_6
                            try clear hfz6_7
                            try clear p2
                            obtain ⟨kq, x47_28, rfl, HA, HJ28, BK102, HB⟩ := hcut
                            cases kq with
                            | zero => exact absurd HA.out (by simp [item_Check.j5])
                            | succ kj28 =>
                              have H := HA.out
                              clear HA
                              simp only [item_Check.j5] at H
                              by_cases c34 : x47_28 = true
                              · subst c34
                                have H1 : (some 1) = some r := by rw [if_pos rfl] at H; exact H
                                clear H
                                have H := H1
                                clear H1
                                obtain rfl := Option.some.inj H
                                go_wp2
                                go_ret
                                exact ⟨by first | rfl | (simp [errW_none, errW_some] <;> rfl) | (simp [*, errW_none, errW_some] <;> rfl), by repeat (first | (with_reducible first | exact HB.out | apply below_alloc | apply pw_below_drewN | apply below_drew1 | refine below_set ?_ GE102.out) | exact HB.out)⟩
                              · replace c34 := Bool.eq_false_iff.mpr c34
                                subst c34
                                have H1 : (if a0_6 < 1 then (item_Check.j6 kj28 true a0_0 a0_1 a0_2 a0_3 a0_4 a0_5 a0_6 a0_7) else (item_Check.j6 kj28 (decide (a0_6 > 5)) a0_0 a0_1 a0_2 a0_3 a0_4 a0_5 a0_6 a0_7)) = some r := by rw [if_neg (show ¬ (false = true) by decide)] at H; exact H
                                clear H
                                have H := H1
                                clear H1
                                have HC35 := Aside0.mk H
                                clear H
                                go_upto_region 11 with (fail)
                                go_cut [64] (fun v64 wc => ∃ (kq : Nat) (x64_34 : Bool), v64 = .bool x64_34 ∧ Aside0 (item_Check.j6 kq x64_34 a0_0 a0_1 a0_2 a0_3 a0_4 a0_5 a0_6 a0_7 = some r) ∧ Aside0 (kq ≤ kj28) ∧ Aside0 (wc.heap[gb102]? = some (.cells #[.int .i64 a0_0, .int .i64 a0_1, .int .i64 a0_2, .int .i64 a0_3, .int .i64 a0_4, .int .i64 a0_5, .int .i64 a0_6, .int .i64 a0_7] 33 (0, 0))) ∧ Aside0 (Below w.heap.size w wc))
                                case first =>
                                  have H := HC35.out
                                  clear HC35
                                  by_cases c36 : a0_6 < 1
                                  · rw [if_pos c36] at H
                                    have c36b0 : decide (a0_6 < 1) = true := decide_eq_true c36
                                    clear c36
                                    (first | rw [c36b0] | (simp only [i64_w, i32_w]; rw [c36b0]) | skip)
                                    have H' := Aside0.mk H
                                    clear H
                                    have hcz37_0 : wc.cell? ⟨gb102, 0, none⟩ = some (.int .i64 a0_0) := (blk_cell BK102.out 0).trans rfl
                                    have hcz37_1 : wc.cell? ⟨gb102, 1, none⟩ = some (.int .i64 a0_1) := (blk_cell BK102.out 1).trans rfl
                                    have hcz37_2 : wc.cell? ⟨gb102, 2, none⟩ = some (.int .i64 a0_2) := (blk_cell BK102.out 2).trans rfl
                                    have hcz37_3 : wc.cell? ⟨gb102, 3, none⟩ = some (.int .i64 a0_3) := (blk_cell BK102.out 3).trans rfl
                                    have hcz37_4 : wc.cell? ⟨gb102, 4, none⟩ = some (.int .i64 a0_4) := (blk_cell BK102.out 4).trans rfl
                                    have hcz37_5 : wc.cell? ⟨gb102, 5, none⟩ = some (.int .i64 a0_5) := (blk_cell BK102.out 5).trans rfl
                                    have hcz37_6 : wc.cell? ⟨gb102, 6, none⟩ = some (.int .i64 a0_6) := (blk_cell BK102.out 6).trans rfl
                                    have hcz37_7 : wc.cell? ⟨gb102, 7, none⟩ = some (.int .i64 a0_7) := (blk_cell BK102.out 7).trans rfl
                                    have hfz37_0 := blk_frozen BK102.out 0
                                    have hfz37_1 := blk_frozen BK102.out 1
                                    have hfz37_2 := blk_frozen BK102.out 2
                                    have hfz37_3 := blk_frozen BK102.out 3
                                    have hfz37_4 := blk_frozen BK102.out 4
                                    have hfz37_5 := blk_frozen BK102.out 5
                                    have hfz37_6 := blk_frozen BK102.out 6
                                    have hfz37_7 := blk_frozen BK102.out 7
                                    go_wp2
                                    go_meet
                                    case rel => exact ⟨_, (true), (by first | rfl | (simp; done) | (simp [*]; done)), H', ⟨by have := HJ1.out; have := HJ6.out; have := HJ14.out; have := HJ18.out; have := HJ24.out; have := HJ28.out; first | omega | exact Nat.le_refl _⟩, ⟨by (with_reducible repeat (first | refine blk_drewN ?_ _ | refine blk_drew ?_ | refine blk_alloc ?_ _)); exact BK102.out⟩, ⟨by repeat (first | (with_reducible first | exact HB.out | apply below_alloc | apply pw_below_drewN | apply below_drew1 | refine below_set ?_ GE102.out) | exact HB.out)⟩⟩
                                  · rw [if_neg c36] at H
                                    have c36b0 : decide (a0_6 < 1) = false := decide_eq_false c36
                                    clear c36
                                    (first | rw [c36b0] | (simp only [i64_w, i32_w]; rw [c36b0]) | skip)
                                    have H' := Aside0.mk H
                                    clear H
                                    have hcz38_0 : wc.cell? ⟨gb102, 0, none⟩ = some (.int .i64 a0_0) := (blk_cell BK102.out 0).trans rfl
                                    have hcz38_1 : wc.cell? ⟨gb102, 1, none⟩ = some (.int .i64 a0_1) := (blk_cell BK102.out 1).trans rfl
                                    have hcz38_2 : wc.cell? ⟨gb102, 2, none⟩ = some (.int .i64 a0_2) := (blk_cell BK102.out 2).trans rfl
                                    have hcz38_3 : wc.cell? ⟨gb102, 3, none⟩ = some (.int .i64 a0_3) := (blk_cell BK102.out 3).trans rfl
                                    have hcz38_4 : wc.cell? ⟨gb102, 4, none⟩ = some (.int .i64 a0_4) := (blk_cell BK102.out 4).trans rfl
                                    have hcz38_5 : wc.cell? ⟨gb102, 5, none⟩ = some (.int .i64 a0_5) := (blk_cell BK102.out 5).trans rfl
                                    have hcz38_6 : wc.cell? ⟨gb102, 6, none⟩ = some (.int .i64 a0_6) := (blk_cell BK102.out 6).trans rfl
                                    have hcz38_7 : wc.cell? ⟨gb102, 7, none⟩ = some (.int .i64 a0_7) := (blk_cell BK102.out 7).trans rfl
                                    have hfz38_0 := blk_frozen BK102.out 0
                                    have hfz38_1 := blk_frozen BK102.out 1
                                    have hfz38_2 := blk_frozen BK102.out 2
                                    have hfz38_3 := blk_frozen BK102.out 3
                                    have hfz38_4 := blk_frozen BK102.out 4
                                    have hfz38_5 := blk_frozen BK102.out 5
                                    have hfz38_6 := blk_frozen BK102.out 6
                                    have hfz38_7 := blk_frozen BK102.out 7
                                    go_wp2
                                    go_meet
                                    case rel => exact ⟨_, (decide (a0_6 > 5)), (by first | rfl | (simp; done) | (simp [*]; done)), H', ⟨by have := HJ1.out; have := HJ6.out; have := HJ14.out; have := HJ18.out; have := HJ24.out; have := HJ28.out; first | omega | exact Nat.le_refl _⟩, ⟨by (with_reducible repeat (first | refine blk_drewN ?_ _ | refine blk_drew ?_ | refine blk_alloc ?_ _)); exact BK102.out⟩, ⟨by repeat (first | (with_reducible first | exact HB.out | apply below_alloc | apply pw_below_drewN | apply below_drew1 | refine below_set ?_ GE102.out) | exact HB.out)⟩⟩
                                case rest =>
                                  clear HC35
                                  try clear c1
                                  try clear c2
                                  try clear p2
                                  try clear c3
                                  try clear c4
                                  try clear c4b0
                                  try clear c6
                                  try clear c8
                                  try clear c9
                                  try clear c9b0
                                  try clear c11
                                  try clear c11b0
                                  try clear c14
                                  try clear c16
                                  try clear c16b0
                                  try clear c20
                                  try clear c21
                                  try clear c21b0
                                  try clear c24
                                  try clear c26
                                  try clear c26b0
                                  try clear c30
                                  try clear c31
                                  try clear c31b0
                                  try clear c34
                                  try clear c36
                                  try clear c36b0
                                  try clear hcz10_0
                                  try clear hcz10_1
                                  try clear hcz10_2
                                  try clear hcz10_3
                                  try clear hcz10_4
                                  try clear hcz10_5
                                  try clear hcz10_6
                                  try clear hcz10_7
                                  try clear hcz12_0
                                  try clear hcz12_1
                                  try clear hcz12_2
                                  try clear hcz12_3
                                  try clear hcz12_4
                                  try clear hcz12_5
                                  try clear hcz12_6
                                  try clear hcz12_7
                                  try clear hcz13_0
                                  try clear hcz13_1
                                  try clear hcz13_2
                                  try clear hcz13_3
                                  try clear hcz13_4
                                  try clear hcz13_5
                                  try clear hcz13_6
                                  try clear hcz13_7
                                  try clear hcz17_0
                                  try clear hcz17_1
                                  try clear hcz17_2
                                  try clear hcz17_3
                                  try clear hcz17_4
                                  try clear hcz17_5
                                  try clear hcz17_6
                                  try clear hcz17_7
                                  try clear hcz18_0
                                  try clear hcz18_1
                                  try clear hcz18_2
                                  try clear hcz18_3
                                  try clear hcz18_4
                                  try clear hcz18_5
                                  try clear hcz18_6
                                  try clear hcz18_7
                                  try clear hcz22_0
                                  try clear hcz22_1
                                  try clear hcz22_2
                                  try clear hcz22_3
                                  try clear hcz22_4
                                  try clear hcz22_5
                                  try clear hcz22_6
                                  try clear hcz22_7
                                  try clear hcz23_0
                                  try clear hcz23_1
                                  try clear hcz23_2
                                  try clear hcz23_3
                                  try clear hcz23_4
                                  try clear hcz23_5
                                  try clear hcz23_6
                                  try clear hcz23_7
                                  try clear hcz27_0
                                  try clear hcz27_1
                                  try clear hcz27_2
                                  try clear hcz27_3
                                  try clear hcz27_4
                                  try clear hcz27_5
                                  try clear hcz27_6
                                  try clear hcz27_7
                                  try clear hcz28_0
                                  try clear hcz28_1
                                  try clear hcz28_2
                                  try clear hcz28_3
                                  try clear hcz28_4
                                  try clear hcz28_5
                                  try clear hcz28_6
                                  try clear hcz28_7
                                  try clear hcz32_0
                                  try clear hcz32_1
                                  try clear hcz32_2
                                  try clear hcz32_3
                                  try clear hcz32_4
                                  try clear hcz32_5
                                  try clear hcz32_6
                                  try clear hcz32_7
                                  try clear hcz33_0
                                  try clear hcz33_1
                                  try clear hcz33_2
                                  try clear hcz33_3
                                  try clear hcz33_4
                                  try clear hcz33_5
                                  try clear hcz33_6
                                  try clear hcz33_7
                                  try clear hcz37_0
                                  try clear hcz37_1
                                  try clear hcz37_2
                                  try clear hcz37_3
                                  try clear hcz37_4
                                  try clear hcz37_5
                                  try clear hcz37_6
                                  try clear hcz37_7
                                  try clear hcz38_0
                                  try clear hcz38_1
                                  try clear hcz38_2
                                  try clear hcz38_3
                                  try clear hcz38_4
                                  try clear hcz38_5
                                  try clear hcz38_6
                                  try clear hcz38_7
                                  try clear hcz5_0
                                  try clear hcz5_1
                                  try clear hcz5_2
                                  try clear hcz5_3
                                  try clear hcz5_4
                                  try clear hcz5_5
                                  try clear hcz5_6
                                  try clear hcz5_7
                                  try clear hcz6_0
                                  try clear hcz6_1
                                  try clear hcz6_2
                                  try clear hcz6_3
                                  try clear hcz6_4
                                  try clear hcz6_5
                                  try clear hcz6_6
                                  try clear hcz6_7
                                  try clear hfz10_0
                                  try clear hfz10_1
                                  try clear hfz10_2
                                  try clear hfz10_3
                                  try clear hfz10_4
                                  try clear hfz10_5
                                  try clear hfz10_6
                                  try clear hfz10_7
                                  try clear hfz12_0
                                  try clear hfz12_1
                                  try clear hfz12_2
                                  try clear hfz12_3
                                  try clear hfz12_4
                                  try clear hfz12_5
                                  try clear hfz12_6
                                  try clear hfz12_7
                                  try clear hfz13_0
                                  try clear hfz13_1
                                  try clear hfz13_2
                                  try clear hfz13_3
                                  try clear hfz13_4
                                  try clear hfz13_5
                                  try clear hfz13_6
                                  try clear hfz13_7
                                  try clear hfz17_0
                                  try clear hfz17_1
                                  try clear hfz17_2
                                  try clear hfz17_3
                                  try clear hfz17_4
                                  try clear hfz17_5
                                  try clear hfz17_6
                                  try clear hfz17_7
                                  try clear hfz18_0
                                  try clear hfz18_1
                                  try clear hfz18_2
                                  try clear hfz18_3
                                  try clear hfz18_4
                                  try clear hfz18_5
                                  try clear hfz18_6
                                  try clear hfz18_7
                                  try clear hfz22_0
                                  try clear hfz22_1
                                  try clear hfz22_2
                                  try clear hfz22_3
                                  try clear hfz22_4
                                  try clear hfz22_5
                                  try clear hfz22_6
                                  try clear hfz22_7
                                  try clear hfz23_0
                                  try clear hfz23_1
                                  try clear hfz23_2
                                  try clear hfz23_3
                                  try clear hfz23_4
                                  try clear hfz23_5
                                  try clear hfz23_6
                                  try clear hfz23_7
                                  try clear hfz27_0
                                  try clear hfz27_1
                                  try clear hfz27_2
                                  try clear hfz27_3
                                  try clear hfz27_4
                                  try clear hfz27_5
                                  try clear hfz27_6
                                  try clear hfz27_7
                                  try clear hfz28_0
                                  try clear hfz28_1
                                  try clear hfz28_2
                                  try clear hfz28_3
                                  try clear hfz28_4
                                  try clear hfz28_5
                                  try clear hfz28_6
                                  try clear hfz28_7
                                  try clear hfz32_0
                                  try clear hfz32_1
                                  try clear hfz32_2
                                  try clear hfz32_3
                                  try clear hfz32_4
                                  try clear hfz32_5
                                  try clear hfz32_6
                                  try clear hfz32_7
                                  try clear hfz33_0
                                  try clear hfz33_1
                                  try clear hfz33_2
                                  try clear hfz33_3
                                  try clear hfz33_4
                                  try clear hfz33_5
                                  try clear hfz33_6
                                  try clear hfz33_7
                                  try clear hfz37_0
                                  try clear hfz37_1
                                  try clear hfz37_2
                                  try clear hfz37_3
                                  try clear hfz37_4
                                  try clear hfz37_5
                                  try clear hfz37_6
                                  try clear hfz37_7
                                  try clear hfz38_0
                                  try clear hfz38_1
                                  try clear hfz38_2
                                  try clear hfz38_3
                                  try clear hfz38_4
                                  try clear hfz38_5
                                  try clear hfz38_6
                                  try clear hfz38_7
                                  try clear hfz5_0
                                  try clear hfz5_1
                                  try clear hfz5_2
                                  try clear hfz5_3
                                  try clear hfz5_4
                                  try clear hfz5_5
                                  try clear hfz5_6
                                  try clear hfz5_7
                                  try clear hfz6_0
                                  try clear hfz6_1
                                  try clear hfz6_2
                                  try clear hfz6_3
                                  try clear hfz6_4
                                  try clear hfz6_5
                                  try clear hfz6_6
                                  try clear hfz6_7
                                  try clear p2
                                  obtain ⟨kq, x64_34, rfl, HA, HJ34, BK102, HB⟩ := hcut
                                  cases kq with
                                  | zero => exact absurd HA.out (by simp [item_Check.j6])
                                  | succ kj34 =>
                                    have H := HA.out
                                    clear HA
                                    simp only [item_Check.j6] at H
                                    have HC39 := Aside0.mk H
                                    clear H
                                    go_upto_if 64 with (fail)
                                    go_cut [64] (fun v64 wc => ∃ (kq : Nat) (x64_38 : Bool), v64 = .bool x64_38 ∧ Aside0 (item_Check.j7 kq x64_38 a0_0 a0_1 a0_2 a0_3 a0_4 a0_5 a0_6 a0_7 = some r) ∧ Aside0 (kq ≤ kj34) ∧ Aside0 (wc.heap[gb102]? = some (.cells #[.int .i64 a0_0, .int .i64 a0_1, .int .i64 a0_2, .int .i64 a0_3, .int .i64 a0_4, .int .i64 a0_5, .int .i64 a0_6, .int .i64 a0_7] 33 (0, 0))) ∧ Aside0 (Below w.heap.size w wc))
                                    case first =>
                                      have H := HC39.out
                                      clear HC39
                                      by_cases c40 : x64_34 = true
                                      · subst c40
                                        have H1 : (item_Check.j7 kj34 true a0_0 a0_1 a0_2 a0_3 a0_4 a0_5 a0_6 a0_7) = some r := by rw [if_pos rfl] at H; exact H
                                        clear H
                                        have H := H1
                                        clear H1
                                        have H' := Aside0.mk H
                                        clear H
                                        go_wp2
                                        go_meet
                                        case rel => exact ⟨_, (true), (by first | rfl | (simp; done) | (simp [*]; done)), H', ⟨by have := HJ1.out; have := HJ6.out; have := HJ14.out; have := HJ18.out; have := HJ24.out; have := HJ28.out; have := HJ34.out; first | omega | exact Nat.le_refl _⟩, ⟨by (with_reducible repeat (first | refine blk_drewN ?_ _ | refine blk_drew ?_ | refine blk_alloc ?_ _)); exact BK102.out⟩, ⟨by repeat (first | (with_reducible first | exact HB.out | apply below_alloc | apply pw_below_drewN | apply below_drew1 | refine below_set ?_ GE102.out) | exact HB.out)⟩⟩
                                      · replace c40 := Bool.eq_false_iff.mpr c40
                                        subst c40
                                        have H1 : (if a0_7 < 0 then (item_Check.j7 kj34 true a0_0 a0_1 a0_2 a0_3 a0_4 a0_5 a0_6 a0_7) else (item_Check.j7 kj34 (decide (a0_7 > 1048576)) a0_0 a0_1 a0_2 a0_3 a0_4 a0_5 a0_6 a0_7)) = some r := by rw [if_neg (show ¬ (false = true) by decide)] at H; exact H
                                        clear H
                                        have H := H1
                                        clear H1
                                        by_cases c41 : a0_7 < 0
                                        · rw [if_pos c41] at H
                                          have c41b0 : decide (a0_7 < 0) = true := decide_eq_true c41
                                          clear c41
                                          (first | rw [c41b0] | (simp only [i64_w, i32_w]; rw [c41b0]) | skip)
                                          have H' := Aside0.mk H
                                          clear H
                                          have hcz42_0 : wc.cell? ⟨gb102, 0, none⟩ = some (.int .i64 a0_0) := (blk_cell BK102.out 0).trans rfl
                                          have hcz42_1 : wc.cell? ⟨gb102, 1, none⟩ = some (.int .i64 a0_1) := (blk_cell BK102.out 1).trans rfl
                                          have hcz42_2 : wc.cell? ⟨gb102, 2, none⟩ = some (.int .i64 a0_2) := (blk_cell BK102.out 2).trans rfl
                                          have hcz42_3 : wc.cell? ⟨gb102, 3, none⟩ = some (.int .i64 a0_3) := (blk_cell BK102.out 3).trans rfl
                                          have hcz42_4 : wc.cell? ⟨gb102, 4, none⟩ = some (.int .i64 a0_4) := (blk_cell BK102.out 4).trans rfl
                                          have hcz42_5 : wc.cell? ⟨gb102, 5, none⟩ = some (.int .i64 a0_5) := (blk_cell BK102.out 5).trans rfl
                                          have hcz42_6 : wc.cell? ⟨gb102, 6, none⟩ = some (.int .i64 a0_6) := (blk_cell BK102.out 6).trans rfl
                                          have hcz42_7 : wc.cell? ⟨gb102, 7, none⟩ = some (.int .i64 a0_7) := (blk_cell BK102.out 7).trans rfl
                                          have hfz42_0 := blk_frozen BK102.out 0
                                          have hfz42_1 := blk_frozen BK102.out 1
                                          have hfz42_2 := blk_frozen BK102.out 2
                                          have hfz42_3 := blk_frozen BK102.out 3
                                          have hfz42_4 := blk_frozen BK102.out 4
                                          have hfz42_5 := blk_frozen BK102.out 5
                                          have hfz42_6 := blk_frozen BK102.out 6
                                          have hfz42_7 := blk_frozen BK102.out 7
                                          go_wp2
                                          go_meet
                                          case rel => exact ⟨_, (true), (by first | rfl | (simp; done) | (simp [*]; done)), H', ⟨by have := HJ1.out; have := HJ6.out; have := HJ14.out; have := HJ18.out; have := HJ24.out; have := HJ28.out; have := HJ34.out; first | omega | exact Nat.le_refl _⟩, ⟨by (with_reducible repeat (first | refine blk_drewN ?_ _ | refine blk_drew ?_ | refine blk_alloc ?_ _)); exact BK102.out⟩, ⟨by repeat (first | (with_reducible first | exact HB.out | apply below_alloc | apply pw_below_drewN | apply below_drew1 | refine below_set ?_ GE102.out) | exact HB.out)⟩⟩
                                        · rw [if_neg c41] at H
                                          have c41b0 : decide (a0_7 < 0) = false := decide_eq_false c41
                                          clear c41
                                          (first | rw [c41b0] | (simp only [i64_w, i32_w]; rw [c41b0]) | skip)
                                          have H' := Aside0.mk H
                                          clear H
                                          have hcz43_0 : wc.cell? ⟨gb102, 0, none⟩ = some (.int .i64 a0_0) := (blk_cell BK102.out 0).trans rfl
                                          have hcz43_1 : wc.cell? ⟨gb102, 1, none⟩ = some (.int .i64 a0_1) := (blk_cell BK102.out 1).trans rfl
                                          have hcz43_2 : wc.cell? ⟨gb102, 2, none⟩ = some (.int .i64 a0_2) := (blk_cell BK102.out 2).trans rfl
                                          have hcz43_3 : wc.cell? ⟨gb102, 3, none⟩ = some (.int .i64 a0_3) := (blk_cell BK102.out 3).trans rfl
                                          have hcz43_4 : wc.cell? ⟨gb102, 4, none⟩ = some (.int .i64 a0_4) := (blk_cell BK102.out 4).trans rfl
                                          have hcz43_5 : wc.cell? ⟨gb102, 5, none⟩ = some (.int .i64 a0_5) := (blk_cell BK102.out 5).trans rfl
                                          have hcz43_6 : wc.cell? ⟨gb102, 6, none⟩ = some (.int .i64 a0_6) := (blk_cell BK102.out 6).trans rfl
                                          have hcz43_7 : wc.cell? ⟨gb102, 7, none⟩ = some (.int .i64 a0_7) := (blk_cell BK102.out 7).trans rfl
                                          have hfz43_0 := blk_frozen BK102.out 0
                                          have hfz43_1 := blk_frozen BK102.out 1
                                          have hfz43_2 := blk_frozen BK102.out 2
                                          have hfz43_3 := blk_frozen BK102.out 3
                                          have hfz43_4 := blk_frozen BK102.out 4
                                          have hfz43_5 := blk_frozen BK102.out 5
                                          have hfz43_6 := blk_frozen BK102.out 6
                                          have hfz43_7 := blk_frozen BK102.out 7
                                          go_wp2
                                          go_meet
                                          case rel => exact ⟨_, (decide (a0_7 > 1048576)), (by first | rfl | (simp; done) | (simp [*]; done)), H', ⟨by have := HJ1.out; have := HJ6.out; have := HJ14.out; have := HJ18.out; have := HJ24.out; have := HJ28.out; have := HJ34.out; first | omega | exact Nat.le_refl _⟩, ⟨by (with_reducible repeat (first | refine blk_drewN ?_ _ | refine blk_drew ?_ | refine blk_alloc ?_ _)); exact BK102.out⟩, ⟨by repeat (first | (with_reducible first | exact HB.out | apply below_alloc | apply pw_below_drewN | apply below_drew1 | refine below_set ?_ GE102.out) | exact HB.out)⟩⟩
                                    case rest =>
                                      clear HC39
                                      try clear c1
                                      try clear c2
                                      try clear p2
                                      try clear c3
                                      try clear c4
                                      try clear c4b0
                                      try clear c6
                                      try clear c8
                                      try clear c9
                                      try clear c9b0
                                      try clear c11
                                      try clear c11b0
                                      try clear c14
                                      try clear c16
                                      try clear c16b0
                                      try clear c20
                                      try clear c21
                                      try clear c21b0
                                      try clear c24
                                      try clear c26
                                      try clear c26b0
                                      try clear c30
                                      try clear c31
                                      try clear c31b0
                                      try clear c34
                                      try clear c36
                                      try clear c36b0
                                      try clear c40
                                      try clear c41
                                      try clear c41b0
                                      try clear hcz10_0
                                      try clear hcz10_1
                                      try clear hcz10_2
                                      try clear hcz10_3
                                      try clear hcz10_4
                                      try clear hcz10_5
                                      try clear hcz10_6
                                      try clear hcz10_7
                                      try clear hcz12_0
                                      try clear hcz12_1
                                      try clear hcz12_2
                                      try clear hcz12_3
                                      try clear hcz12_4
                                      try clear hcz12_5
                                      try clear hcz12_6
                                      try clear hcz12_7
                                      try clear hcz13_0
                                      try clear hcz13_1
                                      try clear hcz13_2
                                      try clear hcz13_3
                                      try clear hcz13_4
                                      try clear hcz13_5
                                      try clear hcz13_6
                                      try clear hcz13_7
                                      try clear hcz17_0
                                      try clear hcz17_1
                                      try clear hcz17_2
                                      try clear hcz17_3
                                      try clear hcz17_4
                                      try clear hcz17_5
                                      try clear hcz17_6
                                      try clear hcz17_7
                                      try clear hcz18_0
                                      try clear hcz18_1
                                      try clear hcz18_2
                                      try clear hcz18_3
                                      try clear hcz18_4
                                      try clear hcz18_5
                                      try clear hcz18_6
                                      try clear hcz18_7
                                      try clear hcz22_0
                                      try clear hcz22_1
                                      try clear hcz22_2
                                      try clear hcz22_3
                                      try clear hcz22_4
                                      try clear hcz22_5
                                      try clear hcz22_6
                                      try clear hcz22_7
                                      try clear hcz23_0
                                      try clear hcz23_1
                                      try clear hcz23_2
                                      try clear hcz23_3
                                      try clear hcz23_4
                                      try clear hcz23_5
                                      try clear hcz23_6
                                      try clear hcz23_7
                                      try clear hcz27_0
                                      try clear hcz27_1
                                      try clear hcz27_2
                                      try clear hcz27_3
                                      try clear hcz27_4
                                      try clear hcz27_5
                                      try clear hcz27_6
                                      try clear hcz27_7
                                      try clear hcz28_0
                                      try clear hcz28_1
                                      try clear hcz28_2
                                      try clear hcz28_3
                                      try clear hcz28_4
                                      try clear hcz28_5
                                      try clear hcz28_6
                                      try clear hcz28_7
                                      try clear hcz32_0
                                      try clear hcz32_1
                                      try clear hcz32_2
                                      try clear hcz32_3
                                      try clear hcz32_4
                                      try clear hcz32_5
                                      try clear hcz32_6
                                      try clear hcz32_7
                                      try clear hcz33_0
                                      try clear hcz33_1
                                      try clear hcz33_2
                                      try clear hcz33_3
                                      try clear hcz33_4
                                      try clear hcz33_5
                                      try clear hcz33_6
                                      try clear hcz33_7
                                      try clear hcz37_0
                                      try clear hcz37_1
                                      try clear hcz37_2
                                      try clear hcz37_3
                                      try clear hcz37_4
                                      try clear hcz37_5
                                      try clear hcz37_6
                                      try clear hcz37_7
                                      try clear hcz38_0
                                      try clear hcz38_1
                                      try clear hcz38_2
                                      try clear hcz38_3
                                      try clear hcz38_4
                                      try clear hcz38_5
                                      try clear hcz38_6
                                      try clear hcz38_7
                                      try clear hcz42_0
                                      try clear hcz42_1
                                      try clear hcz42_2
                                      try clear hcz42_3
                                      try clear hcz42_4
                                      try clear hcz42_5
                                      try clear hcz42_6
                                      try clear hcz42_7
                                      try clear hcz43_0
                                      try clear hcz43_1
                                      try clear hcz43_2
                                      try clear hcz43_3
                                      try clear hcz43_4
                                      try clear hcz43_5
                                      try clear hcz43_6
                                      try clear hcz43_7
                                      try clear hcz5_0
                                      try clear hcz5_1
                                      try clear hcz5_2
                                      try clear hcz5_3
                                      try clear hcz5_4
                                      try clear hcz5_5
                                      try clear hcz5_6
                                      try clear hcz5_7
                                      try clear hcz6_0
                                      try clear hcz6_1
                                      try clear hcz6_2
                                      try clear hcz6_3
                                      try clear hcz6_4
                                      try clear hcz6_5
                                      try clear hcz6_6
                                      try clear hcz6_7
                                      try clear hfz10_0
                                      try clear hfz10_1
                                      try clear hfz10_2
                                      try clear hfz10_3
                                      try clear hfz10_4
                                      try clear hfz10_5
                                      try clear hfz10_6
                                      try clear hfz10_7
                                      try clear hfz12_0
                                      try clear hfz12_1
                                      try clear hfz12_2
                                      try clear hfz12_3
                                      try clear hfz12_4
                                      try clear hfz12_5
                                      try clear hfz12_6
                                      try clear hfz12_7
                                      try clear hfz13_0
                                      try clear hfz13_1
                                      try clear hfz13_2
                                      try clear hfz13_3
                                      try clear hfz13_4
                                      try clear hfz13_5
                                      try clear hfz13_6
                                      try clear hfz13_7
                                      try clear hfz17_0
                                      try clear hfz17_1
                                      try clear hfz17_2
                                      try clear hfz17_3
                                      try clear hfz17_4
                                      try clear hfz17_5
                                      try clear hfz17_6
                                      try clear hfz17_7
                                      try clear hfz18_0
                                      try clear hfz18_1
                                      try clear hfz18_2
                                      try clear hfz18_3
                                      try clear hfz18_4
                                      try clear hfz18_5
                                      try clear hfz18_6
                                      try clear hfz18_7
                                      try clear hfz22_0
                                      try clear hfz22_1
                                      try clear hfz22_2
                                      try clear hfz22_3
                                      try clear hfz22_4
                                      try clear hfz22_5
                                      try clear hfz22_6
                                      try clear hfz22_7
                                      try clear hfz23_0
                                      try clear hfz23_1
                                      try clear hfz23_2
                                      try clear hfz23_3
                                      try clear hfz23_4
                                      try clear hfz23_5
                                      try clear hfz23_6
                                      try clear hfz23_7
                                      try clear hfz27_0
                                      try clear hfz27_1
                                      try clear hfz27_2
                                      try clear hfz27_3
                                      try clear hfz27_4
                                      try clear hfz27_5
                                      try clear hfz27_6
                                      try clear hfz27_7
                                      try clear hfz28_0
                                      try clear hfz28_1
                                      try clear hfz28_2
                                      try clear hfz28_3
                                      try clear hfz28_4
                                      try clear hfz28_5
                                      try clear hfz28_6
                                      try clear hfz28_7
                                      try clear hfz32_0
                                      try clear hfz32_1
                                      try clear hfz32_2
                                      try clear hfz32_3
                                      try clear hfz32_4
                                      try clear hfz32_5
                                      try clear hfz32_6
                                      try clear hfz32_7
                                      try clear hfz33_0
                                      try clear hfz33_1
                                      try clear hfz33_2
                                      try clear hfz33_3
                                      try clear hfz33_4
                                      try clear hfz33_5
                                      try clear hfz33_6
                                      try clear hfz33_7
                                      try clear hfz37_0
                                      try clear hfz37_1
                                      try clear hfz37_2
                                      try clear hfz37_3
                                      try clear hfz37_4
                                      try clear hfz37_5
                                      try clear hfz37_6
                                      try clear hfz37_7
                                      try clear hfz38_0
                                      try clear hfz38_1
                                      try clear hfz38_2
                                      try clear hfz38_3
                                      try clear hfz38_4
                                      try clear hfz38_5
                                      try clear hfz38_6
                                      try clear hfz38_7
                                      try clear hfz42_0
                                      try clear hfz42_1
                                      try clear hfz42_2
                                      try clear hfz42_3
                                      try clear hfz42_4
                                      try clear hfz42_5
                                      try clear hfz42_6
                                      try clear hfz42_7
                                      try clear hfz43_0
                                      try clear hfz43_1
                                      try clear hfz43_2
                                      try clear hfz43_3
                                      try clear hfz43_4
                                      try clear hfz43_5
                                      try clear hfz43_6
                                      try clear hfz43_7
                                      try clear hfz5_0
                                      try clear hfz5_1
                                      try clear hfz5_2
                                      try clear hfz5_3
                                      try clear hfz5_4
                                      try clear hfz5_5
                                      try clear hfz5_6
                                      try clear hfz5_7
                                      try clear hfz6_0
                                      try clear hfz6_1
                                      try clear hfz6_2
                                      try clear hfz6_3
                                      try clear hfz6_4
                                      try clear hfz6_5
                                      try clear hfz6_6
                                      try clear hfz6_7
                                      try clear p2
                                      obtain ⟨kq, x64_38, rfl, HA, HJ38, BK102, HB⟩ := hcut
                                      cases kq with
                                      | zero => exact absurd HA.out (by simp [item_Check.j7])
                                      | succ kj38 =>
                                        have H := HA.out
                                        clear HA
                                        simp only [item_Check.j7] at H
                                        by_cases c44 : x64_38 = true
                                        · subst c44
                                          have H1 : (some 1) = some r := by rw [if_pos rfl] at H; exact H
                                          clear H
                                          have H := H1
                                          clear H1
                                          obtain rfl := Option.some.inj H
                                          go_wp2
                                          go_ret
                                          exact ⟨by first | rfl | (simp [errW_none, errW_some] <;> rfl) | (simp [*, errW_none, errW_some] <;> rfl), by repeat (first | (with_reducible first | exact HB.out | apply below_alloc | apply pw_below_drewN | apply below_drew1 | refine below_set ?_ GE102.out) | exact HB.out)⟩
                                        · replace c44 := Bool.eq_false_iff.mpr c44
                                          subst c44
                                          have H1 : (if a0_7 = 0 then (item_Check.j8 kj38 false a0_0 a0_1 a0_2 a0_3 a0_4 a0_5 a0_6 a0_7) else (if a0_6 = 3 then (item_Check.j8 kj38 false a0_0 a0_1 a0_2 a0_3 a0_4 a0_5 a0_6 a0_7) else (item_Check.j8 kj38 (a0_6 != 5) a0_0 a0_1 a0_2 a0_3 a0_4 a0_5 a0_6 a0_7))) = some r := by rw [if_neg (show ¬ (false = true) by decide)] at H; exact H
                                          clear H
                                          have H := H1
                                          clear H1
                                          have HC45 := Aside0.mk H
                                          clear H
                                          go_upto_region 14 with (fail)
                                          go_cut [81] (fun v81 wc => ∃ (kq : Nat) (x81_44 : Bool), v81 = .bool x81_44 ∧ Aside0 (item_Check.j8 kq x81_44 a0_0 a0_1 a0_2 a0_3 a0_4 a0_5 a0_6 a0_7 = some r) ∧ Aside0 (kq ≤ kj38) ∧ Aside0 (wc.heap[gb102]? = some (.cells #[.int .i64 a0_0, .int .i64 a0_1, .int .i64 a0_2, .int .i64 a0_3, .int .i64 a0_4, .int .i64 a0_5, .int .i64 a0_6, .int .i64 a0_7] 33 (0, 0))) ∧ Aside0 (Below w.heap.size w wc))
                                          case first =>
                                            have H := HC45.out
                                            clear HC45
                                            by_cases c46 : a0_7 = 0
                                            · rw [if_pos c46] at H
                                              have c46b0 : (a0_7 == 0) = true := beq_iff_eq.mpr c46
                                              have c46b1 : (a0_7 != 0) = false := bne_eq_false_iff_eq.mpr c46
                                              clear c46
                                              (first | rw [c46b0] | (simp only [i64_w, i32_w]; rw [c46b0]) | skip)
                                              have H' := Aside0.mk H
                                              clear H
                                              have hcz47_0 : wc.cell? ⟨gb102, 0, none⟩ = some (.int .i64 a0_0) := (blk_cell BK102.out 0).trans rfl
                                              have hcz47_1 : wc.cell? ⟨gb102, 1, none⟩ = some (.int .i64 a0_1) := (blk_cell BK102.out 1).trans rfl
                                              have hcz47_2 : wc.cell? ⟨gb102, 2, none⟩ = some (.int .i64 a0_2) := (blk_cell BK102.out 2).trans rfl
                                              have hcz47_3 : wc.cell? ⟨gb102, 3, none⟩ = some (.int .i64 a0_3) := (blk_cell BK102.out 3).trans rfl
                                              have hcz47_4 : wc.cell? ⟨gb102, 4, none⟩ = some (.int .i64 a0_4) := (blk_cell BK102.out 4).trans rfl
                                              have hcz47_5 : wc.cell? ⟨gb102, 5, none⟩ = some (.int .i64 a0_5) := (blk_cell BK102.out 5).trans rfl
                                              have hcz47_6 : wc.cell? ⟨gb102, 6, none⟩ = some (.int .i64 a0_6) := (blk_cell BK102.out 6).trans rfl
                                              have hcz47_7 : wc.cell? ⟨gb102, 7, none⟩ = some (.int .i64 a0_7) := (blk_cell BK102.out 7).trans rfl
                                              have hfz47_0 := blk_frozen BK102.out 0
                                              have hfz47_1 := blk_frozen BK102.out 1
                                              have hfz47_2 := blk_frozen BK102.out 2
                                              have hfz47_3 := blk_frozen BK102.out 3
                                              have hfz47_4 := blk_frozen BK102.out 4
                                              have hfz47_5 := blk_frozen BK102.out 5
                                              have hfz47_6 := blk_frozen BK102.out 6
                                              have hfz47_7 := blk_frozen BK102.out 7
                                              go_wp2
                                              go_meet
                                              case rel => exact ⟨_, (false), (by first | rfl | (simp; done) | (simp [*]; done)), H', ⟨by have := HJ1.out; have := HJ6.out; have := HJ14.out; have := HJ18.out; have := HJ24.out; have := HJ28.out; have := HJ34.out; have := HJ38.out; first | omega | exact Nat.le_refl _⟩, ⟨by (with_reducible repeat (first | refine blk_drewN ?_ _ | refine blk_drew ?_ | refine blk_alloc ?_ _)); exact BK102.out⟩, ⟨by repeat (first | (with_reducible first | exact HB.out | apply below_alloc | apply pw_below_drewN | apply below_drew1 | refine below_set ?_ GE102.out) | exact HB.out)⟩⟩
                                            · rw [if_neg c46] at H
                                              have c46b0 : (a0_7 == 0) = false := beq_eq_false_iff_ne.mpr c46
                                              have c46b1 : (a0_7 != 0) = true := bne_iff_ne.mpr c46
                                              (first | rw [c46b0] | (simp only [i64_w, i32_w]; rw [c46b0]) | skip)
                                              by_cases c48 : a0_6 = 3
                                              · rw [if_pos c48] at H
                                                have c48b0 : (a0_6 == 3) = true := beq_iff_eq.mpr c48
                                                have c48b1 : (a0_6 != 3) = false := bne_eq_false_iff_eq.mpr c48
                                                clear c48
                                                have H' := Aside0.mk H
                                                clear H
                                                have hcz49_0 : wc.cell? ⟨gb102, 0, none⟩ = some (.int .i64 a0_0) := (blk_cell BK102.out 0).trans rfl
                                                have hcz49_1 : wc.cell? ⟨gb102, 1, none⟩ = some (.int .i64 a0_1) := (blk_cell BK102.out 1).trans rfl
                                                have hcz49_2 : wc.cell? ⟨gb102, 2, none⟩ = some (.int .i64 a0_2) := (blk_cell BK102.out 2).trans rfl
                                                have hcz49_3 : wc.cell? ⟨gb102, 3, none⟩ = some (.int .i64 a0_3) := (blk_cell BK102.out 3).trans rfl
                                                have hcz49_4 : wc.cell? ⟨gb102, 4, none⟩ = some (.int .i64 a0_4) := (blk_cell BK102.out 4).trans rfl
                                                have hcz49_5 : wc.cell? ⟨gb102, 5, none⟩ = some (.int .i64 a0_5) := (blk_cell BK102.out 5).trans rfl
                                                have hcz49_6 : wc.cell? ⟨gb102, 6, none⟩ = some (.int .i64 a0_6) := (blk_cell BK102.out 6).trans rfl
                                                have hcz49_7 : wc.cell? ⟨gb102, 7, none⟩ = some (.int .i64 a0_7) := (blk_cell BK102.out 7).trans rfl
                                                have hfz49_0 := blk_frozen BK102.out 0
                                                have hfz49_1 := blk_frozen BK102.out 1
                                                have hfz49_2 := blk_frozen BK102.out 2
                                                have hfz49_3 := blk_frozen BK102.out 3
                                                have hfz49_4 := blk_frozen BK102.out 4
                                                have hfz49_5 := blk_frozen BK102.out 5
                                                have hfz49_6 := blk_frozen BK102.out 6
                                                have hfz49_7 := blk_frozen BK102.out 7
                                                go_wp2
                                                go_meet
                                                case rel => exact ⟨_, (false), (by first | rfl | (simp; done) | (simp [*]; done)), H', ⟨by have := HJ1.out; have := HJ6.out; have := HJ14.out; have := HJ18.out; have := HJ24.out; have := HJ28.out; have := HJ34.out; have := HJ38.out; first | omega | exact Nat.le_refl _⟩, ⟨by (with_reducible repeat (first | refine blk_drewN ?_ _ | refine blk_drew ?_ | refine blk_alloc ?_ _)); exact BK102.out⟩, ⟨by repeat (first | (with_reducible first | exact HB.out | apply below_alloc | apply pw_below_drewN | apply below_drew1 | refine below_set ?_ GE102.out) | exact HB.out)⟩⟩
                                              · rw [if_neg c48] at H
                                                have c48b0 : (a0_6 == 3) = false := beq_eq_false_iff_ne.mpr c48
                                                have c48b1 : (a0_6 != 3) = true := bne_iff_ne.mpr c48
                                                have H' := Aside0.mk H
                                                clear H
                                                have hcz50_0 : wc.cell? ⟨gb102, 0, none⟩ = some (.int .i64 a0_0) := (blk_cell BK102.out 0).trans rfl
                                                have hcz50_1 : wc.cell? ⟨gb102, 1, none⟩ = some (.int .i64 a0_1) := (blk_cell BK102.out 1).trans rfl
                                                have hcz50_2 : wc.cell? ⟨gb102, 2, none⟩ = some (.int .i64 a0_2) := (blk_cell BK102.out 2).trans rfl
                                                have hcz50_3 : wc.cell? ⟨gb102, 3, none⟩ = some (.int .i64 a0_3) := (blk_cell BK102.out 3).trans rfl
                                                have hcz50_4 : wc.cell? ⟨gb102, 4, none⟩ = some (.int .i64 a0_4) := (blk_cell BK102.out 4).trans rfl
                                                have hcz50_5 : wc.cell? ⟨gb102, 5, none⟩ = some (.int .i64 a0_5) := (blk_cell BK102.out 5).trans rfl
                                                have hcz50_6 : wc.cell? ⟨gb102, 6, none⟩ = some (.int .i64 a0_6) := (blk_cell BK102.out 6).trans rfl
                                                have hcz50_7 : wc.cell? ⟨gb102, 7, none⟩ = some (.int .i64 a0_7) := (blk_cell BK102.out 7).trans rfl
                                                have hfz50_0 := blk_frozen BK102.out 0
                                                have hfz50_1 := blk_frozen BK102.out 1
                                                have hfz50_2 := blk_frozen BK102.out 2
                                                have hfz50_3 := blk_frozen BK102.out 3
                                                have hfz50_4 := blk_frozen BK102.out 4
                                                have hfz50_5 := blk_frozen BK102.out 5
                                                have hfz50_6 := blk_frozen BK102.out 6
                                                have hfz50_7 := blk_frozen BK102.out 7
                                                go_wp2
                                                go_meet
                                                case rel => exact ⟨_, ((a0_6 != 5)), (by first | rfl | (simp; done) | (simp [*]; done)), H', ⟨by have := HJ1.out; have := HJ6.out; have := HJ14.out; have := HJ18.out; have := HJ24.out; have := HJ28.out; have := HJ34.out; have := HJ38.out; first | omega | exact Nat.le_refl _⟩, ⟨by (with_reducible repeat (first | refine blk_drewN ?_ _ | refine blk_drew ?_ | refine blk_alloc ?_ _)); exact BK102.out⟩, ⟨by repeat (first | (with_reducible first | exact HB.out | apply below_alloc | apply pw_below_drewN | apply below_drew1 | refine below_set ?_ GE102.out) | exact HB.out)⟩⟩
                                          case rest =>
                                            clear HC45
                                            try clear c1
                                            try clear c2
                                            try clear p2
                                            try clear c3
                                            try clear c4
                                            try clear c4b0
                                            try clear c6
                                            try clear c8
                                            try clear c9
                                            try clear c9b0
                                            try clear c11
                                            try clear c11b0
                                            try clear c14
                                            try clear c16
                                            try clear c16b0
                                            try clear c20
                                            try clear c21
                                            try clear c21b0
                                            try clear c24
                                            try clear c26
                                            try clear c26b0
                                            try clear c30
                                            try clear c31
                                            try clear c31b0
                                            try clear c34
                                            try clear c36
                                            try clear c36b0
                                            try clear c40
                                            try clear c41
                                            try clear c41b0
                                            try clear c44
                                            try clear c46
                                            try clear c46b0
                                            try clear c46b1
                                            try clear c48
                                            try clear c48b0
                                            try clear c48b1
                                            try clear hcz10_0
                                            try clear hcz10_1
                                            try clear hcz10_2
                                            try clear hcz10_3
                                            try clear hcz10_4
                                            try clear hcz10_5
                                            try clear hcz10_6
                                            try clear hcz10_7
                                            try clear hcz12_0
                                            try clear hcz12_1
                                            try clear hcz12_2
                                            try clear hcz12_3
                                            try clear hcz12_4
                                            try clear hcz12_5
                                            try clear hcz12_6
                                            try clear hcz12_7
                                            try clear hcz13_0
                                            try clear hcz13_1
                                            try clear hcz13_2
                                            try clear hcz13_3
                                            try clear hcz13_4
                                            try clear hcz13_5
                                            try clear hcz13_6
                                            try clear hcz13_7
                                            try clear hcz17_0
                                            try clear hcz17_1
                                            try clear hcz17_2
                                            try clear hcz17_3
                                            try clear hcz17_4
                                            try clear hcz17_5
                                            try clear hcz17_6
                                            try clear hcz17_7
                                            try clear hcz18_0
                                            try clear hcz18_1
                                            try clear hcz18_2
                                            try clear hcz18_3
                                            try clear hcz18_4
                                            try clear hcz18_5
                                            try clear hcz18_6
                                            try clear hcz18_7
                                            try clear hcz22_0
                                            try clear hcz22_1
                                            try clear hcz22_2
                                            try clear hcz22_3
                                            try clear hcz22_4
                                            try clear hcz22_5
                                            try clear hcz22_6
                                            try clear hcz22_7
                                            try clear hcz23_0
                                            try clear hcz23_1
                                            try clear hcz23_2
                                            try clear hcz23_3
                                            try clear hcz23_4
                                            try clear hcz23_5
                                            try clear hcz23_6
                                            try clear hcz23_7
                                            try clear hcz27_0
                                            try clear hcz27_1
                                            try clear hcz27_2
                                            try clear hcz27_3
                                            try clear hcz27_4
                                            try clear hcz27_5
                                            try clear hcz27_6
                                            try clear hcz27_7
                                            try clear hcz28_0
                                            try clear hcz28_1
                                            try clear hcz28_2
                                            try clear hcz28_3
                                            try clear hcz28_4
                                            try clear hcz28_5
                                            try clear hcz28_6
                                            try clear hcz28_7
                                            try clear hcz32_0
                                            try clear hcz32_1
                                            try clear hcz32_2
                                            try clear hcz32_3
                                            try clear hcz32_4
                                            try clear hcz32_5
                                            try clear hcz32_6
                                            try clear hcz32_7
                                            try clear hcz33_0
                                            try clear hcz33_1
                                            try clear hcz33_2
                                            try clear hcz33_3
                                            try clear hcz33_4
                                            try clear hcz33_5
                                            try clear hcz33_6
                                            try clear hcz33_7
                                            try clear hcz37_0
                                            try clear hcz37_1
                                            try clear hcz37_2
                                            try clear hcz37_3
                                            try clear hcz37_4
                                            try clear hcz37_5
                                            try clear hcz37_6
                                            try clear hcz37_7
                                            try clear hcz38_0
                                            try clear hcz38_1
                                            try clear hcz38_2
                                            try clear hcz38_3
                                            try clear hcz38_4
                                            try clear hcz38_5
                                            try clear hcz38_6
                                            try clear hcz38_7
                                            try clear hcz42_0
                                            try clear hcz42_1
                                            try clear hcz42_2
                                            try clear hcz42_3
                                            try clear hcz42_4
                                            try clear hcz42_5
                                            try clear hcz42_6
                                            try clear hcz42_7
                                            try clear hcz43_0
                                            try clear hcz43_1
                                            try clear hcz43_2
                                            try clear hcz43_3
                                            try clear hcz43_4
                                            try clear hcz43_5
                                            try clear hcz43_6
                                            try clear hcz43_7
                                            try clear hcz47_0
                                            try clear hcz47_1
                                            try clear hcz47_2
                                            try clear hcz47_3
                                            try clear hcz47_4
                                            try clear hcz47_5
                                            try clear hcz47_6
                                            try clear hcz47_7
                                            try clear hcz49_0
                                            try clear hcz49_1
                                            try clear hcz49_2
                                            try clear hcz49_3
                                            try clear hcz49_4
                                            try clear hcz49_5
                                            try clear hcz49_6
                                            try clear hcz49_7
                                            try clear hcz50_0
                                            try clear hcz50_1
                                            try clear hcz50_2
                                            try clear hcz50_3
                                            try clear hcz50_4
                                            try clear hcz50_5
                                            try clear hcz50_6
                                            try clear hcz50_7
                                            try clear hcz5_0
                                            try clear hcz5_1
                                            try clear hcz5_2
                                            try clear hcz5_3
                                            try clear hcz5_4
                                            try clear hcz5_5
                                            try clear hcz5_6
                                            try clear hcz5_7
                                            try clear hcz6_0
                                            try clear hcz6_1
                                            try clear hcz6_2
                                            try clear hcz6_3
                                            try clear hcz6_4
                                            try clear hcz6_5
                                            try clear hcz6_6
                                            try clear hcz6_7
                                            try clear hfz10_0
                                            try clear hfz10_1
                                            try clear hfz10_2
                                            try clear hfz10_3
                                            try clear hfz10_4
                                            try clear hfz10_5
                                            try clear hfz10_6
                                            try clear hfz10_7
                                            try clear hfz12_0
                                            try clear hfz12_1
                                            try clear hfz12_2
                                            try clear hfz12_3
                                            try clear hfz12_4
                                            try clear hfz12_5
                                            try clear hfz12_6
                                            try clear hfz12_7
                                            try clear hfz13_0
                                            try clear hfz13_1
                                            try clear hfz13_2
                                            try clear hfz13_3
                                            try clear hfz13_4
                                            try clear hfz13_5
                                            try clear hfz13_6
                                            try clear hfz13_7
                                            try clear hfz17_0
                                            try clear hfz17_1
                                            try clear hfz17_2
                                            try clear hfz17_3
                                            try clear hfz17_4
                                            try clear hfz17_5
                                            try clear hfz17_6
                                            try clear hfz17_7
                                            try clear hfz18_0
                                            try clear hfz18_1
                                            try clear hfz18_2
                                            try clear hfz18_3
                                            try clear hfz18_4
                                            try clear hfz18_5
                                            try clear hfz18_6
                                            try clear hfz18_7
                                            try clear hfz22_0
                                            try clear hfz22_1
                                            try clear hfz22_2
                                            try clear hfz22_3
                                            try clear hfz22_4
                                            try clear hfz22_5
                                            try clear hfz22_6
                                            try clear hfz22_7
                                            try clear hfz23_0
                                            try clear hfz23_1
                                            try clear hfz23_2
                                            try clear hfz23_3
                                            try clear hfz23_4
                                            try clear hfz23_5
                                            try clear hfz23_6
                                            try clear hfz23_7
                                            try clear hfz27_0
                                            try clear hfz27_1
                                            try clear hfz27_2
                                            try clear hfz27_3
                                            try clear hfz27_4
                                            try clear hfz27_5
                                            try clear hfz27_6
                                            try clear hfz27_7
                                            try clear hfz28_0
                                            try clear hfz28_1
                                            try clear hfz28_2
                                            try clear hfz28_3
                                            try clear hfz28_4
                                            try clear hfz28_5
                                            try clear hfz28_6
                                            try clear hfz28_7
                                            try clear hfz32_0
                                            try clear hfz32_1
                                            try clear hfz32_2
                                            try clear hfz32_3
                                            try clear hfz32_4
                                            try clear hfz32_5
                                            try clear hfz32_6
                                            try clear hfz32_7
                                            try clear hfz33_0
                                            try clear hfz33_1
                                            try clear hfz33_2
                                            try clear hfz33_3
                                            try clear hfz33_4
                                            try clear hfz33_5
                                            try clear hfz33_6
                                            try clear hfz33_7
                                            try clear hfz37_0
                                            try clear hfz37_1
                                            try clear hfz37_2
                                            try clear hfz37_3
                                            try clear hfz37_4
                                            try clear hfz37_5
                                            try clear hfz37_6
                                            try clear hfz37_7
                                            try clear hfz38_0
                                            try clear hfz38_1
                                            try clear hfz38_2
                                            try clear hfz38_3
                                            try clear hfz38_4
                                            try clear hfz38_5
                                            try clear hfz38_6
                                            try clear hfz38_7
                                            try clear hfz42_0
                                            try clear hfz42_1
                                            try clear hfz42_2
                                            try clear hfz42_3
                                            try clear hfz42_4
                                            try clear hfz42_5
                                            try clear hfz42_6
                                            try clear hfz42_7
                                            try clear hfz43_0
                                            try clear hfz43_1
                                            try clear hfz43_2
                                            try clear hfz43_3
                                            try clear hfz43_4
                                            try clear hfz43_5
                                            try clear hfz43_6
                                            try clear hfz43_7
                                            try clear hfz47_0
                                            try clear hfz47_1
                                            try clear hfz47_2
                                            try clear hfz47_3
                                            try clear hfz47_4
                                            try clear hfz47_5
                                            try clear hfz47_6
                                            try clear hfz47_7
                                            try clear hfz49_0
                                            try clear hfz49_1
                                            try clear hfz49_2
                                            try clear hfz49_3
                                            try clear hfz49_4
                                            try clear hfz49_5
                                            try clear hfz49_6
                                            try clear hfz49_7
                                            try clear hfz50_0
                                            try clear hfz50_1
                                            try clear hfz50_2
                                            try clear hfz50_3
                                            try clear hfz50_4
                                            try clear hfz50_5
                                            try clear hfz50_6
                                            try clear hfz50_7
                                            try clear hfz5_0
                                            try clear hfz5_1
                                            try clear hfz5_2
                                            try clear hfz5_3
                                            try clear hfz5_4
                                            try clear hfz5_5
                                            try clear hfz5_6
                                            try clear hfz5_7
                                            try clear hfz6_0
                                            try clear hfz6_1
                                            try clear hfz6_2
                                            try clear hfz6_3
                                            try clear hfz6_4
                                            try clear hfz6_5
                                            try clear hfz6_6
                                            try clear hfz6_7
                                            try clear p2
                                            obtain ⟨kq, x81_44, rfl, HA, HJ44, BK102, HB⟩ := hcut
                                            cases kq with
                                            | zero => exact absurd HA.out (by simp [item_Check.j8])
                                            | succ kj44 =>
                                              have H := HA.out
                                              clear HA
                                              simp only [item_Check.j8] at H
                                              by_cases c51 : x81_44 = true
                                              · subst c51
                                                have H1 : (some 90) = some r := by rw [if_pos rfl] at H; exact H
                                                clear H
                                                have H := H1
                                                clear H1
                                                obtain rfl := Option.some.inj H
                                                go_wp2
                                                go_ret
                                                exact ⟨by first | rfl | (simp [errW_none, errW_some] <;> rfl) | (simp [*, errW_none, errW_some] <;> rfl), by repeat (first | (with_reducible first | exact HB.out | apply below_alloc | apply pw_below_drewN | apply below_drew1 | refine below_set ?_ GE102.out) | exact HB.out)⟩
                                              · replace c51 := Bool.eq_false_iff.mpr c51
                                                subst c51
                                                have H1 : (if a0_7 = 0 then (if a0_6 = 5 then (some 90) else (some 0)) else (some 0)) = some r := by rw [if_neg (show ¬ (false = true) by decide)] at H; exact H
                                                clear H
                                                have H := H1
                                                clear H1
                                                by_cases c52 : a0_7 = 0
                                                · rw [if_pos c52] at H
                                                  have c52b0 : (a0_7 == 0) = true := beq_iff_eq.mpr c52
                                                  have c52b1 : (a0_7 != 0) = false := bne_eq_false_iff_eq.mpr c52
                                                  clear c52
                                                  by_cases c53 : a0_6 = 5
                                                  · rw [if_pos c53] at H
                                                    have c53b0 : (a0_6 == 5) = true := beq_iff_eq.mpr c53
                                                    have c53b1 : (a0_6 != 5) = false := bne_eq_false_iff_eq.mpr c53
                                                    clear c53
                                                    obtain rfl := Option.some.inj H
                                                    have hcz54_0 : wc.cell? ⟨gb102, 0, none⟩ = some (.int .i64 a0_0) := (blk_cell BK102.out 0).trans rfl
                                                    have hcz54_1 : wc.cell? ⟨gb102, 1, none⟩ = some (.int .i64 a0_1) := (blk_cell BK102.out 1).trans rfl
                                                    have hcz54_2 : wc.cell? ⟨gb102, 2, none⟩ = some (.int .i64 a0_2) := (blk_cell BK102.out 2).trans rfl
                                                    have hcz54_3 : wc.cell? ⟨gb102, 3, none⟩ = some (.int .i64 a0_3) := (blk_cell BK102.out 3).trans rfl
                                                    have hcz54_4 : wc.cell? ⟨gb102, 4, none⟩ = some (.int .i64 a0_4) := (blk_cell BK102.out 4).trans rfl
                                                    have hcz54_5 : wc.cell? ⟨gb102, 5, none⟩ = some (.int .i64 a0_5) := (blk_cell BK102.out 5).trans rfl
                                                    have hcz54_6 : wc.cell? ⟨gb102, 6, none⟩ = some (.int .i64 a0_6) := (blk_cell BK102.out 6).trans rfl
                                                    have hcz54_7 : wc.cell? ⟨gb102, 7, none⟩ = some (.int .i64 a0_7) := (blk_cell BK102.out 7).trans rfl
                                                    have hfz54_0 := blk_frozen BK102.out 0
                                                    have hfz54_1 := blk_frozen BK102.out 1
                                                    have hfz54_2 := blk_frozen BK102.out 2
                                                    have hfz54_3 := blk_frozen BK102.out 3
                                                    have hfz54_4 := blk_frozen BK102.out 4
                                                    have hfz54_5 := blk_frozen BK102.out 5
                                                    have hfz54_6 := blk_frozen BK102.out 6
                                                    have hfz54_7 := blk_frozen BK102.out 7
                                                    go_wp2
                                                    go_ret
                                                    exact ⟨by first | rfl | (simp [errW_none, errW_some] <;> rfl) | (simp [*, errW_none, errW_some] <;> rfl), by repeat (first | (with_reducible first | exact HB.out | apply below_alloc | apply pw_below_drewN | apply below_drew1 | refine below_set ?_ GE102.out) | exact HB.out)⟩
                                                  · rw [if_neg c53] at H
                                                    have c53b0 : (a0_6 == 5) = false := beq_eq_false_iff_ne.mpr c53
                                                    have c53b1 : (a0_6 != 5) = true := bne_iff_ne.mpr c53
                                                    obtain rfl := Option.some.inj H
                                                    have hcz55_0 : wc.cell? ⟨gb102, 0, none⟩ = some (.int .i64 a0_0) := (blk_cell BK102.out 0).trans rfl
                                                    have hcz55_1 : wc.cell? ⟨gb102, 1, none⟩ = some (.int .i64 a0_1) := (blk_cell BK102.out 1).trans rfl
                                                    have hcz55_2 : wc.cell? ⟨gb102, 2, none⟩ = some (.int .i64 a0_2) := (blk_cell BK102.out 2).trans rfl
                                                    have hcz55_3 : wc.cell? ⟨gb102, 3, none⟩ = some (.int .i64 a0_3) := (blk_cell BK102.out 3).trans rfl
                                                    have hcz55_4 : wc.cell? ⟨gb102, 4, none⟩ = some (.int .i64 a0_4) := (blk_cell BK102.out 4).trans rfl
                                                    have hcz55_5 : wc.cell? ⟨gb102, 5, none⟩ = some (.int .i64 a0_5) := (blk_cell BK102.out 5).trans rfl
                                                    have hcz55_6 : wc.cell? ⟨gb102, 6, none⟩ = some (.int .i64 a0_6) := (blk_cell BK102.out 6).trans rfl
                                                    have hcz55_7 : wc.cell? ⟨gb102, 7, none⟩ = some (.int .i64 a0_7) := (blk_cell BK102.out 7).trans rfl
                                                    have hfz55_0 := blk_frozen BK102.out 0
                                                    have hfz55_1 := blk_frozen BK102.out 1
                                                    have hfz55_2 := blk_frozen BK102.out 2
                                                    have hfz55_3 := blk_frozen BK102.out 3
                                                    have hfz55_4 := blk_frozen BK102.out 4
                                                    have hfz55_5 := blk_frozen BK102.out 5
                                                    have hfz55_6 := blk_frozen BK102.out 6
                                                    have hfz55_7 := blk_frozen BK102.out 7
                                                    go_wp2
                                                    go_ret
                                                    exact ⟨by first | rfl | (simp [errW_none, errW_some] <;> rfl) | (simp [*, errW_none, errW_some] <;> rfl), by repeat (first | (with_reducible first | exact HB.out | apply below_alloc | apply pw_below_drewN | apply below_drew1 | refine below_set ?_ GE102.out) | exact HB.out)⟩
                                                · rw [if_neg c52] at H
                                                  have c52b0 : (a0_7 == 0) = false := beq_eq_false_iff_ne.mpr c52
                                                  have c52b1 : (a0_7 != 0) = true := bne_iff_ne.mpr c52
                                                  obtain rfl := Option.some.inj H
                                                  have hcz56_0 : wc.cell? ⟨gb102, 0, none⟩ = some (.int .i64 a0_0) := (blk_cell BK102.out 0).trans rfl
                                                  have hcz56_1 : wc.cell? ⟨gb102, 1, none⟩ = some (.int .i64 a0_1) := (blk_cell BK102.out 1).trans rfl
                                                  have hcz56_2 : wc.cell? ⟨gb102, 2, none⟩ = some (.int .i64 a0_2) := (blk_cell BK102.out 2).trans rfl
                                                  have hcz56_3 : wc.cell? ⟨gb102, 3, none⟩ = some (.int .i64 a0_3) := (blk_cell BK102.out 3).trans rfl
                                                  have hcz56_4 : wc.cell? ⟨gb102, 4, none⟩ = some (.int .i64 a0_4) := (blk_cell BK102.out 4).trans rfl
                                                  have hcz56_5 : wc.cell? ⟨gb102, 5, none⟩ = some (.int .i64 a0_5) := (blk_cell BK102.out 5).trans rfl
                                                  have hcz56_6 : wc.cell? ⟨gb102, 6, none⟩ = some (.int .i64 a0_6) := (blk_cell BK102.out 6).trans rfl
                                                  have hcz56_7 : wc.cell? ⟨gb102, 7, none⟩ = some (.int .i64 a0_7) := (blk_cell BK102.out 7).trans rfl
                                                  have hfz56_0 := blk_frozen BK102.out 0
                                                  have hfz56_1 := blk_frozen BK102.out 1
                                                  have hfz56_2 := blk_frozen BK102.out 2
                                                  have hfz56_3 := blk_frozen BK102.out 3
                                                  have hfz56_4 := blk_frozen BK102.out 4
                                                  have hfz56_5 := blk_frozen BK102.out 5
                                                  have hfz56_6 := blk_frozen BK102.out 6
                                                  have hfz56_7 := blk_frozen BK102.out 7
                                                  go_wp2
                                                  go_ret
                                                  exact ⟨by first | rfl | (simp [errW_none, errW_some] <;> rfl) | (simp [*, errW_none, errW_some] <;> rfl), by repeat (first | (with_reducible first | exact HB.out | apply below_alloc | apply pw_below_drewN | apply below_drew1 | refine below_set ?_ GE102.out) | exact HB.out)⟩

end Go.Proofs.Ytianljjmnpdkcaa.M
