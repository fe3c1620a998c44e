/- Written by a program of this session (a turned copy of the printer: wip/turnprint.py): for each Go function a plain one, and the walk that shows that the code comes to just its answers. -/
import Derived.Test.YtgmfafmefafiiaaMx0
import Derived.Test.YtgmfafmefafiiaaMx4
namespace Go.Proofs.Ytgmfafmefafiiaa.M
open Go.RowKit Go.Proofs.YtgmfafmefafiiaaW.PrintWords Go.Proofs.YtgmfafmefafiiaaW.PrintLast Go.Proofs.YtgmfafmefafiiaaW.PrintMore
attribute [local go_sem] max2_int min2_int max_two min_two max_three min_three max_four min_four   -- for this text's walks alone
set_option linter.unusedVariables false
set_option linter.unusedSimpArgs false

/-! ### contraref11_Write: function 13 -/
mutual
def contraref11_Write.j0 : Nat → Bool → Int → Int → Int → Int → Int → Int → Int → Int → Bool → List (S50) → List Int → Option (ByteArray × Int)
  | 0, _, _, _, _, _, _, _, _, _, _, _, _ => none
  | k + 1, x15, x159000, x159001, x159002, x159003, x159004, x159005, x159006, x159007, x159008, x159009, x159010 => if x15 = true then (some ((⟨#[]⟩ : ByteArray), 110)) else (if (x159009.length : Int) > 1024 then (contraref11_Write.j1 k true x159000 x159001 x159002 x159003 x159004 x159005 x159006 x159007 x159008 x159009 x159010) else (contraref11_Write.j1 k (decide ((x159010.length : Int) > 8)) x159000 x159001 x159002 x159003 x159004 x159005 x159006 x159007 x159008 x159009 x159010))
def contraref11_Write.j1 : Nat → Bool → Int → Int → Int → Int → Int → Int → Int → Int → Bool → List (S50) → List Int → Option (ByteArray × Int)
  | 0, _, _, _, _, _, _, _, _, _, _, _, _ => none
  | k + 1, x25, x159000, x159001, x159002, x159003, x159004, x159005, x159006, x159007, x159008, x159009, x159010 => if x25 = true then (some ((⟨#[]⟩ : ByteArray), 2)) else ((contraref11_small.f x159001).bind fun t159 => (if t159 = true then ((contraref11_small.f x159002).bind fun t160 => (if t160 = true then ((contraref11_small.f x159003).bind fun t161 => (if t161 = true then ((contraref11_small.f x159004).bind fun t162 => (if t162 = true then ((contraref11_small.f x159005).bind fun t163 => (if t163 = true then ((contraref11_small.f x159006).bind fun t164 => (contraref11_Write.j2 k (!t164) x159000 x159001 x159002 x159003 x159004 x159005 x159006 x159007 x159008 x159009 x159010)) else (contraref11_Write.j2 k true x159000 x159001 x159002 x159003 x159004 x159005 x159006 x159007 x159008 x159009 x159010))) else (contraref11_Write.j2 k true x159000 x159001 x159002 x159003 x159004 x159005 x159006 x159007 x159008 x159009 x159010))) else (contraref11_Write.j2 k true x159000 x159001 x159002 x159003 x159004 x159005 x159006 x159007 x159008 x159009 x159010))) else (contraref11_Write.j2 k true x159000 x159001 x159002 x159003 x159004 x159005 x159006 x159007 x159008 x159009 x159010))) else (contraref11_Write.j2 k true x159000 x159001 x159002 x159003 x159004 x159005 x159006 x159007 x159008 x159009 x159010)))
def contraref11_Write.j2 : Nat → Bool → Int → Int → Int → Int → Int → Int → Int → Int → Bool → List (S50) → List Int → Option (ByteArray × Int)
  | 0, _, _, _, _, _, _, _, _, _, _, _, _ => none
  | k + 1, x61, x159000, x159001, x159002, x159003, x159004, x159005, x159006, x159007, x159008, x159009, x159010 => if x61 = true then (some ((⟨#[]⟩ : ByteArray), 1)) else ((contraref04_Num.f k x159000).bind fun t165 => ((contraref04_Num.f k x159001).bind fun t166 => (if t165.size + t166.size ≤ 9223372036854775807 then ((contraref04_Num.f k x159002).bind fun t167 => (if (t165 ++ t166).size + t167.size ≤ 9223372036854775807 then ((contraref04_Num.f k x159003).bind fun t168 => (if ((t165 ++ t166) ++ t167).size + t168.size ≤ 9223372036854775807 then ((contraref04_Num.f k x159004).bind fun t169 => (if (((t165 ++ t166) ++ t167) ++ t168).size + t169.size ≤ 9223372036854775807 then ((contraref04_Num.f k x159005).bind fun t170 => (if ((((t165 ++ t166) ++ t167) ++ t168) ++ t169).size + t170.size ≤ 9223372036854775807 then ((contraref04_Num.f k x159006).bind fun t171 => (if (((((t165 ++ t166) ++ t167) ++ t168) ++ t169) ++ t170).size + t171.size ≤ 9223372036854775807 then ((contraref04_Num.f k x159007).bind fun t172 => ((contraref04_Bool.f x159008).bind fun t173 => (if t172.size + t173.size ≤ 9223372036854775807 then ((contraref04_Num.f k (x159009.length : Int)).bind fun t174 => (if (t172 ++ t173).size + t174.size ≤ 9223372036854775807 then (if ((((((t165 ++ t166) ++ t167) ++ t168) ++ t169) ++ t170) ++ t171).size + ((t172 ++ t173) ++ t174).size ≤ 9223372036854775807 then (contraref11_Write.l0 k (((((((t165 ++ t166) ++ t167) ++ t168) ++ t169) ++ t170) ++ t171) ++ ((t172 ++ t173) ++ t174)) 0 x159000 x159001 x159002 x159003 x159004 x159005 x159006 x159007 x159008 x159009 x159010) else (none)) else (none))) else (none)))) else (none))) else (none))) else (none))) else (none))) else (none))) else (none))))
def contraref11_Write.l0 : Nat → ByteArray → Int → Int → Int → Int → Int → Int → Int → Int → Int → Bool → List (S50) → List Int → Option (ByteArray × Int)
  | 0, _, _, _, _, _, _, _, _, _, _, _, _, _ => none
  | k + 1, x4, x5, x159000, x159001, x159002, x159003, x159004, x159005, x159006, x159007, x159008, x159009, x159010 => if x5 < (x159009.length : Int) then (if 0 ≤ x5 then ((contraref11_small.f ((rd_T50 x159009 x5).f0.f0)).bind fun t177 => (if t177 = true then ((contraref11_small.f ((rd_T50 x159009 x5).f0.f1)).bind fun t178 => (if t178 = true then ((contraref11_small.f ((rd_T50 x159009 x5).f1)).bind fun t179 => (contraref11_Write.j4 k x4 x5 (!t179) x159000 x159001 x159002 x159003 x159004 x159005 x159006 x159007 x159008 x159009 x159010 ((rd_T50 x159009 x5).f0.f0) ((rd_T50 x159009 x5).f0.f1) ((rd_T50 x159009 x5).f1) ((rd_T50 x159009 x5).f2))) else (contraref11_Write.j4 k x4 x5 true x159000 x159001 x159002 x159003 x159004 x159005 x159006 x159007 x159008 x159009 x159010 ((rd_T50 x159009 x5).f0.f0) ((rd_T50 x159009 x5).f0.f1) ((rd_T50 x159009 x5).f1) ((rd_T50 x159009 x5).f2)))) else (contraref11_Write.j4 k x4 x5 true x159000 x159001 x159002 x159003 x159004 x159005 x159006 x159007 x159008 x159009 x159010 ((rd_T50 x159009 x5).f0.f0) ((rd_T50 x159009 x5).f0.f1) ((rd_T50 x159009 x5).f1) ((rd_T50 x159009 x5).f2)))) else (none)) else ((contraref04_Num.f k (x159010.length : Int)).bind fun t184 => (if x4.size + t184.size ≤ 9223372036854775807 then (contraref11_Write.l1 k (x4 ++ t184) 0 x159000 x159001 x159002 x159003 x159004 x159005 x159006 x159007 x159008 x159009 x159010) else (none)))
def contraref11_Write.j4 : Nat → ByteArray → Int → Bool → Int → Int → Int → Int → Int → Int → Int → Int → Bool → List (S50) → List Int → Int → Int → Int → Int → Option (ByteArray × Int)
  | 0, _, _, _, _, _, _, _, _, _, _, _, _, _, _, _, _, _, _ => none
  | k + 1, x4, x5, x134, x159000, x159001, x159002, x159003, x159004, x159005, x159006, x159007, x159008, x159009, x159010, x177000, x177001, x177002, x177003 => if x134 = true then (some ((⟨#[]⟩ : ByteArray), 1)) else ((contraref04_Num.f k x177000).bind fun t180 => ((contraref04_Num.f k x177001).bind fun t181 => (if t180.size + t181.size ≤ 9223372036854775807 then ((contraref04_Num.f k x177002).bind fun t182 => (if (t180 ++ t181).size + t182.size ≤ 9223372036854775807 then ((contraref04_Num.f k x177003).bind fun t183 => (if ((t180 ++ t181) ++ t182).size + t183.size ≤ 9223372036854775807 then (if x4.size + (((t180 ++ t181) ++ t182) ++ t183).size ≤ 9223372036854775807 then (contraref11_Write.l0 k (x4 ++ (((t180 ++ t181) ++ t182) ++ t183)) (wrap64 (x5 + 1)) x159000 x159001 x159002 x159003 x159004 x159005 x159006 x159007 x159008 x159009 x159010) else (none)) else (none))) else (none))) else (none))))
def contraref11_Write.l1 : Nat → ByteArray → Int → Int → Int → Int → Int → Int → Int → Int → Int → Bool → List (S50) → List Int → Option (ByteArray × Int)
  | 0, _, _, _, _, _, _, _, _, _, _, _, _, _ => none
  | k + 1, x4, x7, x159000, x159001, x159002, x159003, x159004, x159005, x159006, x159007, x159008, x159009, x159010 => if x7 < (x159010.length : Int) then (if 0 ≤ x7 then ((contraref04_Num.f k (rd x159010 x7)).bind fun t186 => (if x4.size + t186.size ≤ 9223372036854775807 then (contraref11_Write.l1 k (x4 ++ t186) (wrap64 (x7 + 1)) x159000 x159001 x159002 x159003 x159004 x159005 x159006 x159007 x159008 x159009 x159010) else (none))) else (none)) else (some (x4, 0))
end
def contraref11_Write.f (k : Nat) (a0_0 : Int) (a0_1 : Int) (a0_2 : Int) (a0_3 : Int) (a0_4 : Int) (a0_5 : Int) (a0_6 : Int) (a0_7 : Int) (a0_8 : Bool) (l0_9 : List (S50)) (l0_10 : List Int) : Option (ByteArray × Int) := if a0_0 < 1 then (contraref11_Write.j0 k true a0_0 a0_1 a0_2 a0_3 a0_4 a0_5 a0_6 a0_7 a0_8 l0_9 l0_10) else (contraref11_Write.j0 k (decide (a0_0 > 16)) a0_0 a0_1 a0_2 a0_3 a0_4 a0_5 a0_6 a0_7 a0_8 l0_9 l0_10)
theorem contraref11_Write.mono_l : ∀ k, (∀ y0 y1 y2 y3 y4 y5 y6 y7 y8 y9 y10 y11, LeO (contraref11_Write.j0 k y0 y1 y2 y3 y4 y5 y6 y7 y8 y9 y10 y11) (contraref11_Write.j0 (k + 1) y0 y1 y2 y3 y4 y5 y6 y7 y8 y9 y10 y11)) ∧ (∀ y0 y1 y2 y3 y4 y5 y6 y7 y8 y9 y10 y11, LeO (contraref11_Write.j1 k y0 y1 y2 y3 y4 y5 y6 y7 y8 y9 y10 y11) (contraref11_Write.j1 (k + 1) y0 y1 y2 y3 y4 y5 y6 y7 y8 y9 y10 y11)) ∧ (∀ y0 y1 y2 y3 y4 y5 y6 y7 y8 y9 y10 y11, LeO (contraref11_Write.j2 k y0 y1 y2 y3 y4 y5 y6 y7 y8 y9 y10 y11) (contraref11_Write.j2 (k + 1) y0 y1 y2 y3 y4 y5 y6 y7 y8 y9 y10 y11)) ∧ (∀ y0 y1 y2 y3 y4 y5 y6 y7 y8 y9 y10 y11 y12, LeO (contraref11_Write.l0 k y0 y1 y2 y3 y4 y5 y6 y7 y8 y9 y10 y11 y12) (contraref11_Write.l0 (k + 1) y0 y1 y2 y3 y4 y5 y6 y7 y8 y9 y10 y11 y12)) ∧ (∀ y0 y1 y2 y3 y4 y5 y6 y7 y8 y9 y10 y11 y12 y13 y14 y15 y16 y17, LeO (contraref11_Write.j4 k y0 y1 y2 y3 y4 y5 y6 y7 y8 y9 y10 y11 y12 y13 y14 y15 y16 y17) (contraref11_Write.j4 (k + 1) y0 y1 y2 y3 y4 y5 y6 y7 y8 y9 y10 y11 y12 y13 y14 y15 y16 y17)) ∧ (∀ y0 y1 y2 y3 y4 y5 y6 y7 y8 y9 y10 y11 y12, LeO (contraref11_Write.l1 k y0 y1 y2 y3 y4 y5 y6 y7 y8 y9 y10 y11 y12) (contraref11_Write.l1 (k + 1) y0 y1 y2 y3 y4 y5 y6 y7 y8 y9 y10 y11 y12))
  | 0 => ⟨fun _ _ _ _ _ _ _ _ _ _ _ _ r h => by simp [contraref11_Write.j0] at h, fun _ _ _ _ _ _ _ _ _ _ _ _ r h => by simp [contraref11_Write.j1] at h, fun _ _ _ _ _ _ _ _ _ _ _ _ r h => by simp [contraref11_Write.j2] at h, fun _ _ _ _ _ _ _ _ _ _ _ _ _ r h => by simp [contraref11_Write.l0] at h, fun _ _ _ _ _ _ _ _ _ _ _ _ _ _ _ _ _ _ r h => by simp [contraref11_Write.j4] at h, fun _ _ _ _ _ _ _ _ _ _ _ _ _ r h => by simp [contraref11_Write.l1] at h⟩
  | k + 1 => by
    obtain ⟨ih0, ih1, ih2, ih3, ih4, ih5⟩ := contraref11_Write.mono_l k
    refine ⟨?_, ?_, ?_, ?_, ?_, ?_⟩
    · intro y0 y1 y2 y3 y4 y5 y6 y7 y8 y9 y10 y11
      unfold contraref11_Write.j0
      repeat' first
      | (with_reducible exact ih0 _ _ _ _ _ _ _ _ _ _ _ _)
      | (with_reducible exact ih1 _ _ _ _ _ _ _ _ _ _ _ _)
      | (with_reducible exact ih2 _ _ _ _ _ _ _ _ _ _ _ _)
      | (with_reducible exact ih3 _ _ _ _ _ _ _ _ _ _ _ _ _)
      | (with_reducible exact ih4 _ _ _ _ _ _ _ _ _ _ _ _ _ _ _ _ _ _)
      | (with_reducible exact ih5 _ _ _ _ _ _ _ _ _ _ _ _ _)
      | (with_reducible exact contraref04_Num.mono _ _)
      | (with_reducible exact LeO.refl _)
      | (with_reducible exact LeO.none _)
      | (with_reducible refine LeO.ite ?_ ?_)
      | (with_reducible refine LeO.bind ?_ (fun _ => ?_))
      | exact ih0 _ _ _ _ _ _ _ _ _ _ _ _
      | exact ih1 _ _ _ _ _ _ _ _ _ _ _ _
      | exact ih2 _ _ _ _ _ _ _ _ _ _ _ _
      | exact ih3 _ _ _ _ _ _ _ _ _ _ _ _ _
      | exact ih4 _ _ _ _ _ _ _ _ _ _ _ _ _ _ _ _ _ _
      | exact ih5 _ _ _ _ _ _ _ _ _ _ _ _ _
      | exact contraref04_Num.mono _ _
      | exact LeO.none _
      | refine LeO.ite ?_ ?_
      | refine LeO.bind ?_ (fun _ => ?_)
    · intro y0 y1 y2 y3 y4 y5 y6 y7 y8 y9 y10 y11
      unfold contraref11_Write.j1
      repeat' first
      | (with_reducible exact ih0 _ _ _ _ _ _ _ _ _ _ _ _)
      | (with_reducible exact ih1 _ _ _ _ _ _ _ _ _ _ _ _)
      | (with_reducible exact ih2 _ _ _ _ _ _ _ _ _ _ _ _)
      | (with_reducible exact ih3 _ _ _ _ _ _ _ _ _ _ _ _ _)
      | (with_reducible exact ih4 _ _ _ _ _ _ _ _ _ _ _ _ _ _ _ _ _ _)
      | (with_reducible exact ih5 _ _ _ _ _ _ _ _ _ _ _ _ _)
      | (with_reducible exact contraref04_Num.mono _ _)
      | (with_reducible exact LeO.refl _)
      | (with_reducible exact LeO.none _)
      | (with_reducible refine LeO.ite ?_ ?_)
      | (with_reducible refine LeO.bind ?_ (fun _ => ?_))
      | exact ih0 _ _ _ _ _ _ _ _ _ _ _ _
      | exact ih1 _ _ _ _ _ _ _ _ _ _ _ _
      | exact ih2 _ _ _ _ _ _ _ _ _ _ _ _
      | exact ih3 _ _ _ _ _ _ _ _ _ _ _ _ _
      | exact ih4 _ _ _ _ _ _ _ _ _ _ _ _ _ _ _ _ _ _
      | exact ih5 _ _ _ _ _ _ _ _ _ _ _ _ _
      | exact contraref04_Num.mono _ _
      | exact LeO.none _
      | refine LeO.ite ?_ ?_
      | refine LeO.bind ?_ (fun _ => ?_)
    · intro y0 y1 y2 y3 y4 y5 y6 y7 y8 y9 y10 y11
      unfold contraref11_Write.j2
      repeat' first
      | (with_reducible exact ih0 _ _ _ _ _ _ _ _ _ _ _ _)
      | (with_reducible exact ih1 _ _ _ _ _ _ _ _ _ _ _ _)
      | (with_reducible exact ih2 _ _ _ _ _ _ _ _ _ _ _ _)
      | (with_reducible exact ih3 _ _ _ _ _ _ _ _ _ _ _ _ _)
      | (with_reducible exact ih4 _ _ _ _ _ _ _ _ _ _ _ _ _ _ _ _ _ _)
      | (with_reducible exact ih5 _ _ _ _ _ _ _ _ _ _ _ _ _)
      | (with_reducible exact contraref04_Num.mono _ _)
      | (with_reducible exact LeO.refl _)
      | (with_reducible exact LeO.none _)
      | (with_reducible refine LeO.ite ?_ ?_)
      | (with_reducible refine LeO.bind ?_ (fun _ => ?_))
      | exact ih0 _ _ _ _ _ _ _ _ _ _ _ _
      | exact ih1 _ _ _ _ _ _ _ _ _ _ _ _
      | exact ih2 _ _ _ _ _ _ _ _ _ _ _ _
      | exact ih3 _ _ _ _ _ _ _ _ _ _ _ _ _
      | exact ih4 _ _ _ _ _ _ _ _ _ _ _ _ _ _ _ _ _ _
      | exact ih5 _ _ _ _ _ _ _ _ _ _ _ _ _
      | exact contraref04_Num.mono _ _
      | exact LeO.none _
      | refine LeO.ite ?_ ?_
      | refine LeO.bind ?_ (fun _ => ?_)
    · intro y0 y1 y2 y3 y4 y5 y6 y7 y8 y9 y10 y11 y12
      unfold contraref11_Write.l0
      repeat' first
      | (with_reducible exact ih0 _ _ _ _ _ _ _ _ _ _ _ _)
      | (with_reducible exact ih1 _ _ _ _ _ _ _ _ _ _ _ _)
      | (with_reducible exact ih2 _ _ _ _ _ _ _ _ _ _ _ _)
      | (with_reducible exact ih3 _ _ _ _ _ _ _ _ _ _ _ _ _)
      | (with_reducible exact ih4 _ _ _ _ _ _ _ _ _ _ _ _ _ _ _ _ _ _)
      | (with_reducible exact ih5 _ _ _ _ _ _ _ _ _ _ _ _ _)
      | (with_reducible exact contraref04_Num.mono _ _)
      | (with_reducible exact LeO.refl _)
      | (with_reducible exact LeO.none _)
      | (with_reducible refine LeO.ite ?_ ?_)
      | (with_reducible refine LeO.bind ?_ (fun _ => ?_))
      | exact ih0 _ _ _ _ _ _ _ _ _ _ _ _
      | exact ih1 _ _ _ _ _ _ _ _ _ _ _ _
      | exact ih2 _ _ _ _ _ _ _ _ _ _ _ _
      | exact ih3 _ _ _ _ _ _ _ _ _ _ _ _ _
      | exact ih4 _ _ _ _ _ _ _ _ _ _ _ _ _ _ _ _ _ _
      | exact ih5 _ _ _ _ _ _ _ _ _ _ _ _ _
      | exact contraref04_Num.mono _ _
      | exact LeO.none _
      | refine LeO.ite ?_ ?_
      | refine LeO.bind ?_ (fun _ => ?_)
    · intro y0 y1 y2 y3 y4 y5 y6 y7 y8 y9 y10 y11 y12 y13 y14 y15 y16 y17
      unfold contraref11_Write.j4
      repeat' first
      | (with_reducible exact ih0 _ _ _ _ _ _ _ _ _ _ _ _)
      | (with_reducible exact ih1 _ _ _ _ _ _ _ _ _ _ _ _)
      | (with_reducible exact ih2 _ _ _ _ _ _ _ _ _ _ _ _)
      | (with_reducible exact ih3 _ _ _ _ _ _ _ _ _ _ _ _ _)
      | (with_reducible exact ih4 _ _ _ _ _ _ _ _ _ _ _ _ _ _ _ _ _ _)
      | (with_reducible exact ih5 _ _ _ _ _ _ _ _ _ _ _ _ _)
      | (with_reducible exact contraref04_Num.mono _ _)
      | (with_reducible exact LeO.refl _)
      | (with_reducible exact LeO.none _)
      | (with_reducible refine LeO.ite ?_ ?_)
      | (with_reducible refine LeO.bind ?_ (fun _ => ?_))
      | exact ih0 _ _ _ _ _ _ _ _ _ _ _ _
      | exact ih1 _ _ _ _ _ _ _ _ _ _ _ _
      | exact ih2 _ _ _ _ _ _ _ _ _ _ _ _
      | exact ih3 _ _ _ _ _ _ _ _ _ _ _ _ _
      | exact ih4 _ _ _ _ _ _ _ _ _ _ _ _ _ _ _ _ _ _
      | exact ih5 _ _ _ _ _ _ _ _ _ _ _ _ _
      | exact contraref04_Num.mono _ _
      | exact LeO.none _
      | refine LeO.ite ?_ ?_
      | refine LeO.bind ?_ (fun _ => ?_)
    · intro y0 y1 y2 y3 y4 y5 y6 y7 y8 y9 y10 y11 y12
      unfold contraref11_Write.l1
      repeat' first
      | (with_reducible exact ih0 _ _ _ _ _ _ _ _ _ _ _ _)
      | (with_reducible exact ih1 _ _ _ _ _ _ _ _ _ _ _ _)
      | (with_reducible exact ih2 _ _ _ _ _ _ _ _ _ _ _ _)
      | (with_reducible exact ih3 _ _ _ _ _ _ _ _ _ _ _ _ _)
      | (with_reducible exact ih4 _ _ _ _ _ _ _ _ _ _ _ _ _ _ _ _ _ _)
      | (with_reducible exact ih5 _ _ _ _ _ _ _ _ _ _ _ _ _)
      | (with_reducible exact contraref04_Num.mono _ _)
      | (with_reducible exact LeO.refl _)
      | (with_reducible exact LeO.none _)
      | (with_reducible refine LeO.ite ?_ ?_)
      | (with_reducible refine LeO.bind ?_ (fun _ => ?_))
      | exact ih0 _ _ _ _ _ _ _ _ _ _ _ _
      | exact ih1 _ _ _ _ _ _ _ _ _ _ _ _
      | exact ih2 _ _ _ _ _ _ _ _ _ _ _ _
      | exact ih3 _ _ _ _ _ _ _ _ _ _ _ _ _
      | exact ih4 _ _ _ _ _ _ _ _ _ _ _ _ _ _ _ _ _ _
      | exact ih5 _ _ _ _ _ _ _ _ _ _ _ _ _
      | exact contraref04_Num.mono _ _
      | exact LeO.none _
      | refine LeO.ite ?_ ?_
      | refine LeO.bind ?_ (fun _ => ?_)
theorem contraref11_Write.mono : ∀ a0 a1 a2 a3 a4 a5 a6 a7 a8 a9 a10 k, LeO (contraref11_Write.f k a0 a1 a2 a3 a4 a5 a6 a7 a8 a9 a10) (contraref11_Write.f (k + 1) a0 a1 a2 a3 a4 a5 a6 a7 a8 a9 a10) := by
  intro a0 a1 a2 a3 a4 a5 a6 a7 a8 a9 a10 k
  obtain ⟨ih0, ih1, ih2, ih3, ih4, ih5⟩ := contraref11_Write.mono_l k
  unfold contraref11_Write.f
  repeat' first
      | (with_reducible exact ih0 _ _ _ _ _ _ _ _ _ _ _ _)
      | (with_reducible exact ih1 _ _ _ _ _ _ _ _ _ _ _ _)
      | (with_reducible exact ih2 _ _ _ _ _ _ _ _ _ _ _ _)
      | (with_reducible exact ih3 _ _ _ _ _ _ _ _ _ _ _ _ _)
      | (with_reducible exact ih4 _ _ _ _ _ _ _ _ _ _ _ _ _ _ _ _ _ _)
      | (with_reducible exact ih5 _ _ _ _ _ _ _ _ _ _ _ _ _)
      | (with_reducible exact contraref04_Num.mono _ _)
      | (with_reducible exact LeO.refl _)
      | (with_reducible exact LeO.none _)
      | (with_reducible refine LeO.ite ?_ ?_)
      | (with_reducible refine LeO.bind ?_ (fun _ => ?_))
      | exact ih0 _ _ _ _ _ _ _ _ _ _ _ _
      | exact ih1 _ _ _ _ _ _ _ _ _ _ _ _
      | exact ih2 _ _ _ _ _ _ _ _ _ _ _ _
      | exact ih3 _ _ _ _ _ _ _ _ _ _ _ _ _
      | exact ih4 _ _ _ _ _ _ _ _ _ _ _ _ _ _ _ _ _ _
      | exact ih5 _ _ _ _ _ _ _ _ _ _ _ _ _
      | exact contraref04_Num.mono _ _
      | exact LeO.none _
      | refine LeO.ite ?_ ?_
      | refine LeO.bind ?_ (fun _ => ?_)
def contraref11_Write.T7 : Bool × List (List Nat × List Nat) := (true, [([], []), ([0], [0]), ([1], [1]), ([], []), ([3], [3]), ([4], [4]), ([5, 2], [5]), ([2, 6], [2, 6]), ([], []), ([8], [8]), ([9], [9]), ([10, 6], [10]), ([7, 11], [7, 11]), ([], []), ([13], [13]), ([14, 11], [14]), ([12, 15], [12, 15]), ([], []), ([17], [17]), ([18, 15], [18]), ([16, 19], [16, 19]), ([], []), ([21], [21]), ([22, 19], [22]), ([20, 23], [20, 23]), ([], []), ([25], [25]), ([26, 23], [26]), ([24, 27], [24, 27]), ([28, 27, 0, 1, 2, 3, 4, 5, 6, 7, 8, 9, 10, 11, 12, 13, 14, 15, 16, 17, 18, 19, 20, 21, 22, 23, 24, 25, 26, 27, 28], [28])])
def contraref11_Write.B7 : List Nat := [0, 1, 3, 0, 8, 24, 63, 127, 0, 256, 768, 1919, 4095, 0, 8192, 28543, 65535, 0, 131072, 454527, 1048575, 0, 2097152, 7270271, 16777215, 0, 33554432, 116322175, 268435455, 536870911]
theorem contraref11_Write.tab7 : rtab .any (opsOf Try.f13 7) = contraref11_Write.T7 := by kernel_rfl
theorem contraref11_Write.bits7 : waitsOk contraref11_Write.T7.2 contraref11_Write.B7 = true := by kernel_rfl
def contraref11_Write.T8 : Bool × List (List Nat × List Nat) := (true, [([], []), ([], []), ([1], [1]), ([2], [2]), ([], []), ([4], [4]), ([5, 3], [5]), ([3, 6], [3, 6]), ([], []), ([8], [8]), ([9], [9]), ([10, 6], [10]), ([7, 11], [7, 11]), ([0, 12], [0, 12]), ([13, 11, 0, 1, 2, 3, 4, 5, 6, 7, 8, 9, 10, 11, 12, 13], [0, 13])])
def contraref11_Write.B8 : List Nat := [0, 0, 2, 6, 0, 16, 62, 126, 0, 256, 768, 1918, 4094, 8191, 16383]
theorem contraref11_Write.tab8 : rtab .any (opsOf Try.f13 8) = contraref11_Write.T8 := by kernel_rfl
theorem contraref11_Write.bits8 : waitsOk contraref11_Write.T8.2 contraref11_Write.B8 = true := by kernel_rfl
def contraref11_Write.T15 : Bool × List (List Nat × List Nat) := (true, [([], []), ([], []), ([1], [1]), ([2], [2]), ([3], [3]), ([], []), ([5], [5]), ([6], [6]), ([7, 4], [7]), ([4, 8], [4, 8]), ([], []), ([10], [10]), ([11, 8], [11]), ([9, 12], [9, 12]), ([], []), ([14], [14]), ([15, 12], [15]), ([13, 16], [13, 16]), ([0, 17], [0, 17]), ([18, 16, 0, 1, 2, 3, 4, 5, 6, 7, 8, 9, 10, 11, 12, 13, 14, 15, 16, 17, 18], [0, 18])])
def contraref11_Write.B15 : List Nat := [0, 0, 2, 6, 14, 0, 32, 96, 254, 510, 0, 1024, 3582, 8190, 0, 16384, 56830, 131070, 262143, 524287]
theorem contraref11_Write.tab15 : rtab .any (opsOf Try.f13 15) = contraref11_Write.T15 := by kernel_rfl
theorem contraref11_Write.bits15 : waitsOk contraref11_Write.T15.2 contraref11_Write.B15 = true := by kernel_rfl
set_option maxHeartbeats 8000000 in
set_option maxRecDepth 100000 in
theorem contraref11_Write.calls (k : Nat) (a0_0 : Int) (a0_1 : Int) (a0_2 : Int) (a0_3 : Int) (a0_4 : Int) (a0_5 : Int) (a0_6 : Int) (a0_7 : Int) (a0_8 : Bool) (A0_9 : Option Addr) (c0_9 : Nat) (l0_9 : List (S50)) (A0_10 : Option Addr) (c0_10 : Nat) (l0_10 : List Int) (r1 : ByteArray) (r2 : Int) (w : World) (hr0_9 : Kd.C k50 w A0_9 l0_9.length l0_9) (hc0_9 : l0_9.length ≤ c0_9) (hr0_10 : Kd.C (Kd.int .i64) w A0_10 l0_10.length l0_10) (hc0_10 : l0_10.length ≤ c0_10) (h : contraref11_Write.f k a0_0 a0_1 a0_2 a0_3 a0_4 a0_5 a0_6 a0_7 a0_8 l0_9 l0_10 = some (r1, r2)) :
    Calls Try.prog 13 #[.agg #[.int .i64 a0_0, .int .i64 a0_1, .int .i64 a0_2, .int .i64 a0_3, .int .i64 a0_4, .int .i64 a0_5, .int .i64 a0_6, .int .i64 a0_7, .bool a0_8, .slice A0_9 l0_9.length c0_9, .slice A0_10 l0_10.length c0_10]] w fun e w' => e = .returned (.tuple #[.string r1, .int .i64 r2]) ∧ Below w.heap.size w w' := by
  have hu28 := Try.underlying28
  have hu50 := Try.underlying50
  have HR0_9 := Aside0.mk hr0_9
  have HC0_9 := Aside0.mk hc0_9
  clear hr0_9 hc0_9
  have HR0_10 := Aside0.mk hr0_10
  have HC0_10 := Aside0.mk hc0_10
  clear hr0_10 hc0_10
  have HB := Aside0.mk (Below.refl w.heap.size w)
  have H : (if a0_0 < 1 then (contraref11_Write.j0 k true a0_0 a0_1 a0_2 a0_3 a0_4 a0_5 a0_6 a0_7 a0_8 l0_9 l0_10) else (contraref11_Write.j0 k (decide (a0_0 > 16)) a0_0 a0_1 a0_2 a0_3 a0_4 a0_5 a0_6 a0_7 a0_8 l0_9 l0_10)) = some (r1, r2) := h
  clear h
  have HC2 := Aside0.mk H
  clear H
  go_enter Try.func13, Try.ntmps13
  go_upto_region 1 with (first | ((with_reducible refine gate_dst (N := 1) rfl ?_); (try (refine gate_guard (by rfl) ?_; dsimp only)); refine box_event ?hg (N := 1) ?hd (cs := #[.int .i64 a0_0, .int .i64 a0_1, .int .i64 a0_2, .int .i64 a0_3, .int .i64 a0_4, .int .i64 a0_5, .int .i64 a0_6, .int .i64 a0_7, .bool a0_8, .slice A0_9 l0_9.length c0_9, .slice A0_10 l0_10.length c0_10]) (t := 28) ?hr ?_; (case hd => rfl); (case hg => rfl); (case hr => first | (go_simp; done) | (go_simp; rfl)); intro gb158 hg w3 hbox hb; have n0_ := Aside0.mk (below_step (by repeat (first | (with_reducible first | exact HB.out | apply below_alloc | apply pw_below_drewN | apply below_drew1) | exact HB.out)) hb); have n1_ := Aside0.mk (hbox); have n2_ := Aside0.mk ((by rw [hg]; exact (below_size (by repeat (first | (with_reducible first | exact HB.out | apply below_alloc | apply pw_below_drewN | apply below_drew1) | exact HB.out))) : w.heap.size ≤ gb158)); have n3_ := Aside0.mk ((by rw [hg]; exact (below_size (by repeat (first | (with_reducible first | exact HB.out | apply below_alloc | apply pw_below_drewN | apply below_drew1) | exact HB.out))) : w.heap.size ≤ gb158)); clear HB; have HB := n0_; have BK158 := n1_; have GW158 := n2_; have GE158 := n3_; clear n0_ n1_ n2_ n3_; clear hb hbox hg))
  (try simp only [Act.put, List.setIfInBounds_toArray, List.set_cons_zero, List.set_cons_succ])
  go_cut [15] (fun v15 wc => ∃ (kq : Nat) (x15_1 : Bool), v15 = .bool x15_1 ∧ Aside0 (contraref11_Write.j0 kq x15_1 a0_0 a0_1 a0_2 a0_3 a0_4 a0_5 a0_6 a0_7 a0_8 l0_9 l0_10 = some (r1, r2)) ∧ Aside0 (kq ≤ k) ∧ Aside0 (wc.heap[gb158]? = some (.cells #[.int .i64 a0_0, .int .i64 a0_1, .int .i64 a0_2, .int .i64 a0_3, .int .i64 a0_4, .int .i64 a0_5, .int .i64 a0_6, .int .i64 a0_7, .bool a0_8, (.slice A0_9 l0_9.length c0_9), (.slice A0_10 l0_10.length c0_10)] 28 (0, 0))) ∧ Aside0 (Below w.heap.size w wc))
  case first =>
    have H := HC2.out
    clear HC2
    by_cases c4 : a0_0 < 1
    · rw [if_pos c4] at H
      have c4b0 : decide (a0_0 < 1) = true := decide_eq_true c4
      clear c4
      (first | rw [c4b0] | (simp only [i64_w, i32_w]; rw [c4b0]) | skip)
      have H' := Aside0.mk H
      clear H
      have hcz5_0 : w3.cell? ⟨gb158, 0, none⟩ = some (.int .i64 a0_0) := (blk_cell BK158.out 0).trans rfl
      have hcz5_1 : w3.cell? ⟨gb158, 1, none⟩ = some (.int .i64 a0_1) := (blk_cell BK158.out 1).trans rfl
      have hcz5_2 : w3.cell? ⟨gb158, 2, none⟩ = some (.int .i64 a0_2) := (blk_cell BK158.out 2).trans rfl
      have hcz5_3 : w3.cell? ⟨gb158, 3, none⟩ = some (.int .i64 a0_3) := (blk_cell BK158.out 3).trans rfl
      have hcz5_4 : w3.cell? ⟨gb158, 4, none⟩ = some (.int .i64 a0_4) := (blk_cell BK158.out 4).trans rfl
      have hcz5_5 : w3.cell? ⟨gb158, 5, none⟩ = some (.int .i64 a0_5) := (blk_cell BK158.out 5).trans rfl
      have hcz5_6 : w3.cell? ⟨gb158, 6, none⟩ = some (.int .i64 a0_6) := (blk_cell BK158.out 6).trans rfl
      have hcz5_7 : w3.cell? ⟨gb158, 7, none⟩ = some (.int .i64 a0_7) := (blk_cell BK158.out 7).trans rfl
      have hcz5_8 : w3.cell? ⟨gb158, 8, none⟩ = some (.bool a0_8) := (blk_cell BK158.out 8).trans rfl
      have hcz5_9 : w3.cell? ⟨gb158, 9, none⟩ = some (.slice A0_9 l0_9.length c0_9) := (blk_cell BK158.out 9).trans rfl
      have hcz5_10 : w3.cell? ⟨gb158, 10, none⟩ = some (.slice A0_10 l0_10.length c0_10) := (blk_cell BK158.out 10).trans rfl
      have hfz5_0 := blk_frozen BK158.out 0
      have hfz5_1 := blk_frozen BK158.out 1
      have hfz5_2 := blk_frozen BK158.out 2
      have hfz5_3 := blk_frozen BK158.out 3
      have hfz5_4 := blk_frozen BK158.out 4
      have hfz5_5 := blk_frozen BK158.out 5
      have hfz5_6 := blk_frozen BK158.out 6
      have hfz5_7 := blk_frozen BK158.out 7
      have hfz5_8 := blk_frozen BK158.out 8
      have hfz5_9 := blk_frozen BK158.out 9
      have hfz5_10 := blk_frozen BK158.out 10
      go_wp2
      go_meet
      case rel => exact ⟨_, (true), (by first | rfl | (simp; done) | (simp [*]; done)), H', ⟨by first | omega | exact Nat.le_refl _⟩, ⟨by (with_reducible repeat (first | refine blk_drewN ?_ _ | refine blk_drew ?_ | refine blk_alloc ?_ _)); exact BK158.out⟩, ⟨by repeat (first | (with_reducible first | exact HB.out | apply below_alloc | apply pw_below_drewN | apply below_drew1 | refine below_set ?_ GE158.out) | exact HB.out)⟩⟩
    · rw [if_neg c4] at H
      have c4b0 : decide (a0_0 < 1) = false := decide_eq_false c4
      clear c4
      (first | rw [c4b0] | (simp only [i64_w, i32_w]; rw [c4b0]) | skip)
      have H' := Aside0.mk H
      clear H
      have hcz6_0 : w3.cell? ⟨gb158, 0, none⟩ = some (.int .i64 a0_0) := (blk_cell BK158.out 0).trans rfl
      have hcz6_1 : w3.cell? ⟨gb158, 1, none⟩ = some (.int .i64 a0_1) := (blk_cell BK158.out 1).trans rfl
      have hcz6_2 : w3.cell? ⟨gb158, 2, none⟩ = some (.int .i64 a0_2) := (blk_cell BK158.out 2).trans rfl
      have hcz6_3 : w3.cell? ⟨gb158, 3, none⟩ = some (.int .i64 a0_3) := (blk_cell BK158.out 3).trans rfl
      have hcz6_4 : w3.cell? ⟨gb158, 4, none⟩ = some (.int .i64 a0_4) := (blk_cell BK158.out 4).trans rfl
      have hcz6_5 : w3.cell? ⟨gb158, 5, none⟩ = some (.int .i64 a0_5) := (blk_cell BK158.out 5).trans rfl
      have hcz6_6 : w3.cell? ⟨gb158, 6, none⟩ = some (.int .i64 a0_6) := (blk_cell BK158.out 6).trans rfl
      have hcz6_7 : w3.cell? ⟨gb158, 7, none⟩ = some (.int .i64 a0_7) := (blk_cell BK158.out 7).trans rfl
      have hcz6_8 : w3.cell? ⟨gb158, 8, none⟩ = some (.bool a0_8) := (blk_cell BK158.out 8).trans rfl
      have hcz6_9 : w3.cell? ⟨gb158, 9, none⟩ = some (.slice A0_9 l0_9.length c0_9) := (blk_cell BK158.out 9).trans rfl
      have hcz6_10 : w3.cell? ⟨gb158, 10, none⟩ = some (.slice A0_10 l0_10.length c0_10) := (blk_cell BK158.out 10).trans rfl
      have hfz6_0 := blk_frozen BK158.out 0
      have hfz6_1 := blk_frozen BK158.out 1
      have hfz6_2 := blk_frozen BK158.out 2
      have hfz6_3 := blk_frozen BK158.out 3
      have hfz6_4 := blk_frozen BK158.out 4
      have hfz6_5 := blk_frozen BK158.out 5
      have hfz6_6 := blk_frozen BK158.out 6
      have hfz6_7 := blk_frozen BK158.out 7
      have hfz6_8 := blk_frozen BK158.out 8
      have hfz6_9 := blk_frozen BK158.out 9
      have hfz6_10 := blk_frozen BK158.out 10
      go_wp2
      go_meet
      case rel => exact ⟨_, (decide (a0_0 > 16)), (by first | rfl | (simp; done) | (simp [*]; done)), H', ⟨by first | omega | exact Nat.le_refl _⟩, ⟨by (with_reducible repeat (first | refine blk_drewN ?_ _ | refine blk_drew ?_ | refine blk_alloc ?_ _)); exact BK158.out⟩, ⟨by repeat (first | (with_reducible first | exact HB.out | apply below_alloc | apply pw_below_drewN | apply below_drew1 | refine below_set ?_ GE158.out) | exact HB.out)⟩⟩
  case rest =>
    clear HC2
    try clear c1
    try clear p2
    try clear c4
    try clear c4b0
    try clear hcz5_0
    try clear hcz5_1
    try clear hcz5_10
    try clear hcz5_2
    try clear hcz5_3
    try clear hcz5_4
    try clear hcz5_5
    try clear hcz5_6
    try clear hcz5_7
    try clear hcz5_8
    try clear hcz5_9
    try clear hcz6_0
    try clear hcz6_1
    try clear hcz6_10
    try clear hcz6_2
    try clear hcz6_3
    try clear hcz6_4
    try clear hcz6_5
    try clear hcz6_6
    try clear hcz6_7
    try clear hcz6_8
    try clear hcz6_9
    try clear hfz5_0
    try clear hfz5_1
    try clear hfz5_10
    try clear hfz5_2
    try clear hfz5_3
    try clear hfz5_4
    try clear hfz5_5
    try clear hfz5_6
    try clear hfz5_7
    try clear hfz5_8
    try clear hfz5_9
    try clear hfz6_0
    try clear hfz6_1
    try clear hfz6_10
    try clear hfz6_2
    try clear hfz6_3
    try clear hfz6_4
    try clear hfz6_5
    try clear hfz6_6
    try clear hfz6_7
    try clear hfz6_8
    try clear hfz6_9
    obtain ⟨kq, x15_1, rfl, HA, HJ1, BK158, HB⟩ := hcut
    cases kq with
    | zero => exact absurd HA.out (by simp [contraref11_Write.j0])
    | succ kj1 =>
      have H := HA.out
      clear HA
      simp only [contraref11_Write.j0] at H
      by_cases c7 : x15_1 = true
      · subst c7
        have H1 : (some ((⟨#[]⟩ : ByteArray), 110)) = some (r1, r2) := by rw [if_pos rfl] at H; exact H
        clear H
        have H := H1
        clear H1
        simp only [Option.some.injEq, Prod.mk.injEq] at H
        obtain ⟨rfl, rfl⟩ := H
        go_wp2
        go_ret2
        exact ⟨by first | rfl | (simp [errW_none, errW_some] <;> rfl) | (simp [*, errW_none, errW_some] <;> rfl), by repeat (first | (with_reducible first | exact HB.out | apply below_alloc | apply pw_below_drewN | apply below_drew1 | refine below_set ?_ GE158.out) | exact HB.out)⟩
      · replace c7 := Bool.eq_false_iff.mpr c7
        subst c7
        have H1 : (if (l0_9.length : Int) > 1024 then (contraref11_Write.j1 kj1 true a0_0 a0_1 a0_2 a0_3 a0_4 a0_5 a0_6 a0_7 a0_8 l0_9 l0_10) else (contraref11_Write.j1 kj1 (decide ((l0_10.length : Int) > 8)) a0_0 a0_1 a0_2 a0_3 a0_4 a0_5 a0_6 a0_7 a0_8 l0_9 l0_10)) = some (r1, r2) := by rw [if_neg (show ¬ (false = true) by decide)] at H; exact H
        clear H
        have H := H1
        clear H1
        have HC8 := Aside0.mk H
        clear H
        go_upto_region 3 with (fail)
        go_cut [25] (fun v25 wc => ∃ (kq : Nat) (x25_7 : Bool), v25 = .bool x25_7 ∧ Aside0 (contraref11_Write.j1 kq x25_7 a0_0 a0_1 a0_2 a0_3 a0_4 a0_5 a0_6 a0_7 a0_8 l0_9 l0_10 = some (r1, r2)) ∧ Aside0 (kq ≤ kj1) ∧ Aside0 (wc.heap[gb158]? = some (.cells #[.int .i64 a0_0, .int .i64 a0_1, .int .i64 a0_2, .int .i64 a0_3, .int .i64 a0_4, .int .i64 a0_5, .int .i64 a0_6, .int .i64 a0_7, .bool a0_8, (.slice A0_9 l0_9.length c0_9), (.slice A0_10 l0_10.length c0_10)] 28 (0, 0))) ∧ Aside0 (Below w.heap.size w wc))
        case first =>
          have H := HC8.out
          clear HC8
          by_cases c9 : (l0_9.length : Int) > 1024
          · rw [if_pos c9] at H
            have c9b0 : decide (1024 < (l0_9.length : Int)) = true := decide_eq_true c9
            have c9b1 : decide (1024 < l0_9.length) = true := decide_eq_true (by omega)
            clear c9
            (first | rw [c9b0] | (simp only [i64_w, i32_w]; rw [c9b0]) | skip)
            have H' := Aside0.mk H
            clear H
            have hcz10_0 : wc.cell? ⟨gb158, 0, none⟩ = some (.int .i64 a0_0) := (blk_cell BK158.out 0).trans rfl
            have hcz10_1 : wc.cell? ⟨gb158, 1, none⟩ = some (.int .i64 a0_1) := (blk_cell BK158.out 1).trans rfl
            have hcz10_2 : wc.cell? ⟨gb158, 2, none⟩ = some (.int .i64 a0_2) := (blk_cell BK158.out 2).trans rfl
            have hcz10_3 : wc.cell? ⟨gb158, 3, none⟩ = some (.int .i64 a0_3) := (blk_cell BK158.out 3).trans rfl
            have hcz10_4 : wc.cell? ⟨gb158, 4, none⟩ = some (.int .i64 a0_4) := (blk_cell BK158.out 4).trans rfl
            have hcz10_5 : wc.cell? ⟨gb158, 5, none⟩ = some (.int .i64 a0_5) := (blk_cell BK158.out 5).trans rfl
            have hcz10_6 : wc.cell? ⟨gb158, 6, none⟩ = some (.int .i64 a0_6) := (blk_cell BK158.out 6).trans rfl
            have hcz10_7 : wc.cell? ⟨gb158, 7, none⟩ = some (.int .i64 a0_7) := (blk_cell BK158.out 7).trans rfl
            have hcz10_8 : wc.cell? ⟨gb158, 8, none⟩ = some (.bool a0_8) := (blk_cell BK158.out 8).trans rfl
            have hcz10_9 : wc.cell? ⟨gb158, 9, none⟩ = some (.slice A0_9 l0_9.length c0_9) := (blk_cell BK158.out 9).trans rfl
            have hcz10_10 : wc.cell? ⟨gb158, 10, none⟩ = some (.slice A0_10 l0_10.length c0_10) := (blk_cell BK158.out 10).trans rfl
            have hfz10_0 := blk_frozen BK158.out 0
            have hfz10_1 := blk_frozen BK158.out 1
            have hfz10_2 := blk_frozen BK158.out 2
            have hfz10_3 := blk_frozen BK158.out 3
            have hfz10_4 := blk_frozen BK158.out 4
            have hfz10_5 := blk_frozen BK158.out 5
            have hfz10_6 := blk_frozen BK158.out 6
            have hfz10_7 := blk_frozen BK158.out 7
            have hfz10_8 := blk_frozen BK158.out 8
            have hfz10_9 := blk_frozen BK158.out 9
            have hfz10_10 := blk_frozen BK158.out 10
            go_wp2
            go_meet
            case rel => exact ⟨_, (true), (by first | rfl | (simp; done) | (simp [*]; done)), H', ⟨by have := HJ1.out; first | omega | exact Nat.le_refl _⟩, ⟨by (with_reducible repeat (first | refine blk_drewN ?_ _ | refine blk_drew ?_ | refine blk_alloc ?_ _)); exact BK158.out⟩, ⟨by repeat (first | (with_reducible first | exact HB.out | apply below_alloc | apply pw_below_drewN | apply below_drew1 | refine below_set ?_ GE158.out) | exact HB.out)⟩⟩
          · rw [if_neg c9] at H
            have c9b0 : decide (1024 < (l0_9.length : Int)) = false := decide_eq_false c9
            have c9b1 : decide (1024 < l0_9.length) = false := decide_eq_false (by omega)
            clear c9
            (first | rw [c9b0] | (simp only [i64_w, i32_w]; rw [c9b0]) | skip)
            have H' := Aside0.mk H
            clear H
            have hcz11_0 : wc.cell? ⟨gb158, 0, none⟩ = some (.int .i64 a0_0) := (blk_cell BK158.out 0).trans rfl
            have hcz11_1 : wc.cell? ⟨gb158, 1, none⟩ = some (.int .i64 a0_1) := (blk_cell BK158.out 1).trans rfl
            have hcz11_2 : wc.cell? ⟨gb158, 2, none⟩ = some (.int .i64 a0_2) := (blk_cell BK158.out 2).trans rfl
            have hcz11_3 : wc.cell? ⟨gb158, 3, none⟩ = some (.int .i64 a0_3) := (blk_cell BK158.out 3).trans rfl
            have hcz11_4 : wc.cell? ⟨gb158, 4, none⟩ = some (.int .i64 a0_4) := (blk_cell BK158.out 4).trans rfl
            have hcz11_5 : wc.cell? ⟨gb158, 5, none⟩ = some (.int .i64 a0_5) := (blk_cell BK158.out 5).trans rfl
            have hcz11_6 : wc.cell? ⟨gb158, 6, none⟩ = some (.int .i64 a0_6) := (blk_cell BK158.out 6).trans rfl
            have hcz11_7 : wc.cell? ⟨gb158, 7, none⟩ = some (.int .i64 a0_7) := (blk_cell BK158.out 7).trans rfl
            have hcz11_8 : wc.cell? ⟨gb158, 8, none⟩ = some (.bool a0_8) := (blk_cell BK158.out 8).trans rfl
            have hcz11_9 : wc.cell? ⟨gb158, 9, none⟩ = some (.slice A0_9 l0_9.length c0_9) := (blk_cell BK158.out 9).trans rfl
            have hcz11_10 : wc.cell? ⟨gb158, 10, none⟩ = some (.slice A0_10 l0_10.length c0_10) := (blk_cell BK158.out 10).trans rfl
            have hfz11_0 := blk_frozen BK158.out 0
            have hfz11_1 := blk_frozen BK158.out 1
            have hfz11_2 := blk_frozen BK158.out 2
            have hfz11_3 := blk_frozen BK158.out 3
            have hfz11_4 := blk_frozen BK158.out 4
            have hfz11_5 := blk_frozen BK158.out 5
            have hfz11_6 := blk_frozen BK158.out 6
            have hfz11_7 := blk_frozen BK158.out 7
            have hfz11_8 := blk_frozen BK158.out 8
            have hfz11_9 := blk_frozen BK158.out 9
            have hfz11_10 := blk_frozen BK158.out 10
            go_wp2
            go_meet
            case rel => exact ⟨_, (decide ((l0_10.length : Int) > 8)), (by first | rfl | (simp; done) | (simp [*]; done)), H', ⟨by have := HJ1.out; first | omega | exact Nat.le_refl _⟩, ⟨by (with_reducible repeat (first | refine blk_drewN ?_ _ | refine blk_drew ?_ | refine blk_alloc ?_ _)); exact BK158.out⟩, ⟨by repeat (first | (with_reducible first | exact HB.out | apply below_alloc | apply pw_below_drewN | apply below_drew1 | refine below_set ?_ GE158.out) | exact HB.out)⟩⟩
        case rest =>
          clear HC8
          try clear c1
          try clear p2
          try clear c4
          try clear c4b0
          try clear c7
          try clear c9
          try clear c9b0
          try clear c9b1
          try clear hcz10_0
          try clear hcz10_1
          try clear hcz10_10
          try clear hcz10_2
          try clear hcz10_3
          try clear hcz10_4
          try clear hcz10_5
          try clear hcz10_6
          try clear hcz10_7
          try clear hcz10_8
          try clear hcz10_9
          try clear hcz11_0
          try clear hcz11_1
          try clear hcz11_10
          try clear hcz11_2
          try clear hcz11_3
          try clear hcz11_4
          try clear hcz11_5
          try clear hcz11_6
          try clear hcz11_7
          try clear hcz11_8
          try clear hcz11_9
          try clear hcz5_0
          try clear hcz5_1
          try clear hcz5_10
          try clear hcz5_2
          try clear hcz5_3
          try clear hcz5_4
          try clear hcz5_5
          try clear hcz5_6
          try clear hcz5_7
          try clear hcz5_8
          try clear hcz5_9
          try clear hcz6_0
          try clear hcz6_1
          try clear hcz6_10
          try clear hcz6_2
          try clear hcz6_3
          try clear hcz6_4
          try clear hcz6_5
          try clear hcz6_6
          try clear hcz6_7
          try clear hcz6_8
          try clear hcz6_9
          try clear hfz10_0
          try clear hfz10_1
          try clear hfz10_10
          try clear hfz10_2
          try clear hfz10_3
          try clear hfz10_4
          try clear hfz10_5
          try clear hfz10_6
          try clear hfz10_7
          try clear hfz10_8
          try clear hfz10_9
          try clear hfz11_0
          try clear hfz11_1
          try clear hfz11_10
          try clear hfz11_2
          try clear hfz11_3
          try clear hfz11_4
          try clear hfz11_5
          try clear hfz11_6
          try clear hfz11_7
          try clear hfz11_8
          try clear hfz11_9
          try clear hfz5_0
          try clear hfz5_1
          try clear hfz5_10
          try clear hfz5_2
          try clear hfz5_3
          try clear hfz5_4
          try clear hfz5_5
          try clear hfz5_6
          try clear hfz5_7
          try clear hfz5_8
          try clear hfz5_9
          try clear hfz6_0
          try clear hfz6_1
          try clear hfz6_10
          try clear hfz6_2
          try clear hfz6_3
          try clear hfz6_4
          try clear hfz6_5
          try clear hfz6_6
          try clear hfz6_7
          try clear hfz6_8
          try clear hfz6_9
          try clear p2
          obtain ⟨kq, x25_7, rfl, HA, HJ7, BK158, HB⟩ := hcut
          cases kq with
          | zero => exact absurd HA.out (by simp [contraref11_Write.j1])
          | succ kj7 =>
            have H := HA.out
            clear HA
            simp only [contraref11_Write.j1] at H
            by_cases c12 : x25_7 = true
            · subst c12
              have H1 : (some ((⟨#[]⟩ : ByteArray), 2)) = some (r1, r2) := by rw [if_pos rfl] at H; exact H
              clear H
              have H := H1
              clear H1
              simp only [Option.some.injEq, Prod.mk.injEq] at H
              obtain ⟨rfl, rfl⟩ := H
              go_wp2
              go_ret2
              exact ⟨by first | rfl | (simp [errW_none, errW_some] <;> rfl) | (simp [*, errW_none, errW_some] <;> rfl), by repeat (first | (with_reducible first | exact HB.out | apply below_alloc | apply pw_below_drewN | apply below_drew1 | refine below_set ?_ GE158.out) | exact HB.out)⟩
            · replace c12 := Bool.eq_false_iff.mpr c12
              subst c12
              have H1 : ((contraref11_small.f a0_1).bind fun t159 => (if t159 = true then ((contraref11_small.f a0_2).bind fun t160 => (if t160 = true then ((contraref11_small.f a0_3).bind fun t161 => (if t161 = true then ((contraref11_small.f a0_4).bind fun t162 => (if t162 = true then ((contraref11_small.f a0_5).bind fun t163 => (if t163 = true then ((contraref11_small.f a0_6).bind fun t164 => (contraref11_Write.j2 kj7 (!t164) a0_0 a0_1 a0_2 a0_3 a0_4 a0_5 a0_6 a0_7 a0_8 l0_9 l0_10)) else (contraref11_Write.j2 kj7 true a0_0 a0_1 a0_2 a0_3 a0_4 a0_5 a0_6 a0_7 a0_8 l0_9 l0_10))) else (contraref11_Write.j2 kj7 true a0_0 a0_1 a0_2 a0_3 a0_4 a0_5 a0_6 a0_7 a0_8 l0_9 l0_10))) else (contraref11_Write.j2 kj7 true a0_0 a0_1 a0_2 a0_3 a0_4 a0_5 a0_6 a0_7 a0_8 l0_9 l0_10))) else (contraref11_Write.j2 kj7 true a0_0 a0_1 a0_2 a0_3 a0_4 a0_5 a0_6 a0_7 a0_8 l0_9 l0_10))) else (contraref11_Write.j2 kj7 true a0_0 a0_1 a0_2 a0_3 a0_4 a0_5 a0_6 a0_7 a0_8 l0_9 l0_10))) = some (r1, r2) := by rw [if_neg (show ¬ (false = true) by decide)] at H; exact H
              clear H
              have H := H1
              clear H1
              have HC13 := Aside0.mk H
              clear H
              go_upto_region 5 with (fail)
              go_cut [61] (fun v61 wc => ∃ (kq : Nat) (x61_12 : Bool), v61 = .bool x61_12 ∧ Aside0 (contraref11_Write.j2 kq x61_12 a0_0 a0_1 a0_2 a0_3 a0_4 a0_5 a0_6 a0_7 a0_8 l0_9 l0_10 = some (r1, r2)) ∧ Aside0 (kq ≤ kj7) ∧ Aside0 (wc.heap[gb158]? = some (.cells #[.int .i64 a0_0, .int .i64 a0_1, .int .i64 a0_2, .int .i64 a0_3, .int .i64 a0_4, .int .i64 a0_5, .int .i64 a0_6, .int .i64 a0_7, .bool a0_8, (.slice A0_9 l0_9.length c0_9), (.slice A0_10 l0_10.length c0_10)] 28 (0, 0))) ∧ Aside0 (Below w.heap.size w wc))
              case first =>
                have H := HC13.out
                clear HC13
                replace H := Option.bind_eq_some_iff.mp H
                obtain ⟨t159, A140, H⟩ := H
                replace H : (if t159 = true then ((contraref11_small.f a0_2).bind fun t160 => (if t160 = true then ((contraref11_small.f a0_3).bind fun t161 => (if t161 = true then ((contraref11_small.f a0_4).bind fun t162 => (if t162 = true then ((contraref11_small.f a0_5).bind fun t163 => (if t163 = true then ((contraref11_small.f a0_6).bind fun t164 => (contraref11_Write.j2 kj7 (!t164) a0_0 a0_1 a0_2 a0_3 a0_4 a0_5 a0_6 a0_7 a0_8 l0_9 l0_10)) else (contraref11_Write.j2 kj7 true a0_0 a0_1 a0_2 a0_3 a0_4 a0_5 a0_6 a0_7 a0_8 l0_9 l0_10))) else (contraref11_Write.j2 kj7 true a0_0 a0_1 a0_2 a0_3 a0_4 a0_5 a0_6 a0_7 a0_8 l0_9 l0_10))) else (contraref11_Write.j2 kj7 true a0_0 a0_1 a0_2 a0_3 a0_4 a0_5 a0_6 a0_7 a0_8 l0_9 l0_10))) else (contraref11_Write.j2 kj7 true a0_0 a0_1 a0_2 a0_3 a0_4 a0_5 a0_6 a0_7 a0_8 l0_9 l0_10))) else (contraref11_Write.j2 kj7 true a0_0 a0_1 a0_2 a0_3 a0_4 a0_5 a0_6 a0_7 a0_8 l0_9 l0_10)) = some (r1, r2) := H
                have A14 := Aside0.mk A140
                clear A140
                by_cases c15 : t159 = true
                · subst c15
                  have H1 : ((contraref11_small.f a0_2).bind fun t160 => (if t160 = true then ((contraref11_small.f a0_3).bind fun t161 => (if t161 = true then ((contraref11_small.f a0_4).bind fun t162 => (if t162 = true then ((contraref11_small.f a0_5).bind fun t163 => (if t163 = true then ((contraref11_small.f a0_6).bind fun t164 => (contraref11_Write.j2 kj7 (!t164) a0_0 a0_1 a0_2 a0_3 a0_4 a0_5 a0_6 a0_7 a0_8 l0_9 l0_10)) else (contraref11_Write.j2 kj7 true a0_0 a0_1 a0_2 a0_3 a0_4 a0_5 a0_6 a0_7 a0_8 l0_9 l0_10))) else (contraref11_Write.j2 kj7 true a0_0 a0_1 a0_2 a0_3 a0_4 a0_5 a0_6 a0_7 a0_8 l0_9 l0_10))) else (contraref11_Write.j2 kj7 true a0_0 a0_1 a0_2 a0_3 a0_4 a0_5 a0_6 a0_7 a0_8 l0_9 l0_10))) else (contraref11_Write.j2 kj7 true a0_0 a0_1 a0_2 a0_3 a0_4 a0_5 a0_6 a0_7 a0_8 l0_9 l0_10))) = some (r1, r2) := by rw [if_pos rfl] at H; exact H
                  clear H
                  have H := H1
                  clear H1
                  replace H := Option.bind_eq_some_iff.mp H
                  obtain ⟨t160, A160, H⟩ := H
                  replace H : (if t160 = true then ((contraref11_small.f a0_3).bind fun t161 => (if t161 = true then ((contraref11_small.f a0_4).bind fun t162 => (if t162 = true then ((contraref11_small.f a0_5).bind fun t163 => (if t163 = true then ((contraref11_small.f a0_6).bind fun t164 => (contraref11_Write.j2 kj7 (!t164) a0_0 a0_1 a0_2 a0_3 a0_4 a0_5 a0_6 a0_7 a0_8 l0_9 l0_10)) else (contraref11_Write.j2 kj7 true a0_0 a0_1 a0_2 a0_3 a0_4 a0_5 a0_6 a0_7 a0_8 l0_9 l0_10))) else (contraref11_Write.j2 kj7 true a0_0 a0_1 a0_2 a0_3 a0_4 a0_5 a0_6 a0_7 a0_8 l0_9 l0_10))) else (contraref11_Write.j2 kj7 true a0_0 a0_1 a0_2 a0_3 a0_4 a0_5 a0_6 a0_7 a0_8 l0_9 l0_10))) else (contraref11_Write.j2 kj7 true a0_0 a0_1 a0_2 a0_3 a0_4 a0_5 a0_6 a0_7 a0_8 l0_9 l0_10)) = some (r1, r2) := H
                  have A16 := Aside0.mk A160
                  clear A160
                  by_cases c17 : t160 = true
                  · subst c17
                    have H1 : ((contraref11_small.f a0_3).bind fun t161 => (if t161 = true then ((contraref11_small.f a0_4).bind fun t162 => (if t162 = true then ((contraref11_small.f a0_5).bind fun t163 => (if t163 = true then ((contraref11_small.f a0_6).bind fun t164 => (contraref11_Write.j2 kj7 (!t164) a0_0 a0_1 a0_2 a0_3 a0_4 a0_5 a0_6 a0_7 a0_8 l0_9 l0_10)) else (contraref11_Write.j2 kj7 true a0_0 a0_1 a0_2 a0_3 a0_4 a0_5 a0_6 a0_7 a0_8 l0_9 l0_10))) else (contraref11_Write.j2 kj7 true a0_0 a0_1 a0_2 a0_3 a0_4 a0_5 a0_6 a0_7 a0_8 l0_9 l0_10))) else (contraref11_Write.j2 kj7 true a0_0 a0_1 a0_2 a0_3 a0_4 a0_5 a0_6 a0_7 a0_8 l0_9 l0_10))) = some (r1, r2) := by rw [if_pos rfl] at H; exact H
                    clear H
                    have H := H1
                    clear H1
                    replace H := Option.bind_eq_some_iff.mp H
                    obtain ⟨t161, A180, H⟩ := H
                    replace H : (if t161 = true then ((contraref11_small.f a0_4).bind fun t162 => (if t162 = true then ((contraref11_small.f a0_5).bind fun t163 => (if t163 = true then ((contraref11_small.f a0_6).bind fun t164 => (contraref11_Write.j2 kj7 (!t164) a0_0 a0_1 a0_2 a0_3 a0_4 a0_5 a0_6 a0_7 a0_8 l0_9 l0_10)) else (contraref11_Write.j2 kj7 true a0_0 a0_1 a0_2 a0_3 a0_4 a0_5 a0_6 a0_7 a0_8 l0_9 l0_10))) else (contraref11_Write.j2 kj7 true a0_0 a0_1 a0_2 a0_3 a0_4 a0_5 a0_6 a0_7 a0_8 l0_9 l0_10))) else (contraref11_Write.j2 kj7 true a0_0 a0_1 a0_2 a0_3 a0_4 a0_5 a0_6 a0_7 a0_8 l0_9 l0_10)) = some (r1, r2) := H
                    have A18 := Aside0.mk A180
                    clear A180
                    by_cases c19 : t161 = true
                    · subst c19
                      have H1 : ((contraref11_small.f a0_4).bind fun t162 => (if t162 = true then ((contraref11_small.f a0_5).bind fun t163 => (if t163 = true then ((contraref11_small.f a0_6).bind fun t164 => (contraref11_Write.j2 kj7 (!t164) a0_0 a0_1 a0_2 a0_3 a0_4 a0_5 a0_6 a0_7 a0_8 l0_9 l0_10)) else (contraref11_Write.j2 kj7 true a0_0 a0_1 a0_2 a0_3 a0_4 a0_5 a0_6 a0_7 a0_8 l0_9 l0_10))) else (contraref11_Write.j2 kj7 true a0_0 a0_1 a0_2 a0_3 a0_4 a0_5 a0_6 a0_7 a0_8 l0_9 l0_10))) = some (r1, r2) := by rw [if_pos rfl] at H; exact H
                      clear H
                      have H := H1
                      clear H1
                      replace H := Option.bind_eq_some_iff.mp H
                      obtain ⟨t162, A200, H⟩ := H
                      replace H : (if t162 = true then ((contraref11_small.f a0_5).bind fun t163 => (if t163 = true then ((contraref11_small.f a0_6).bind fun t164 => (contraref11_Write.j2 kj7 (!t164) a0_0 a0_1 a0_2 a0_3 a0_4 a0_5 a0_6 a0_7 a0_8 l0_9 l0_10)) else (contraref11_Write.j2 kj7 true a0_0 a0_1 a0_2 a0_3 a0_4 a0_5 a0_6 a0_7 a0_8 l0_9 l0_10))) else (contraref11_Write.j2 kj7 true a0_0 a0_1 a0_2 a0_3 a0_4 a0_5 a0_6 a0_7 a0_8 l0_9 l0_10)) = some (r1, r2) := H
                      have A20 := Aside0.mk A200
                      clear A200
                      by_cases c21 : t162 = true
                      · subst c21
                        have H1 : ((contraref11_small.f a0_5).bind fun t163 => (if t163 = true then ((contraref11_small.f a0_6).bind fun t164 => (contraref11_Write.j2 kj7 (!t164) a0_0 a0_1 a0_2 a0_3 a0_4 a0_5 a0_6 a0_7 a0_8 l0_9 l0_10)) else (contraref11_Write.j2 kj7 true a0_0 a0_1 a0_2 a0_3 a0_4 a0_5 a0_6 a0_7 a0_8 l0_9 l0_10))) = some (r1, r2) := by rw [if_pos rfl] at H; exact H
                        clear H
                        have H := H1
                        clear H1
                        replace H := Option.bind_eq_some_iff.mp H
                        obtain ⟨t163, A220, H⟩ := H
                        replace H : (if t163 = true then ((contraref11_small.f a0_6).bind fun t164 => (contraref11_Write.j2 kj7 (!t164) a0_0 a0_1 a0_2 a0_3 a0_4 a0_5 a0_6 a0_7 a0_8 l0_9 l0_10)) else (contraref11_Write.j2 kj7 true a0_0 a0_1 a0_2 a0_3 a0_4 a0_5 a0_6 a0_7 a0_8 l0_9 l0_10)) = some (r1, r2) := H
                        have A22 := Aside0.mk A220
                        clear A220
                        by_cases c23 : t163 = true
                        · subst c23
                          have H1 : ((contraref11_small.f a0_6).bind fun t164 => (contraref11_Write.j2 kj7 (!t164) a0_0 a0_1 a0_2 a0_3 a0_4 a0_5 a0_6 a0_7 a0_8 l0_9 l0_10)) = some (r1, r2) := by rw [if_pos rfl] at H; exact H
                          clear H
                          have H := H1
                          clear H1
                          replace H := Option.bind_eq_some_iff.mp H
                          obtain ⟨t164, A240, H⟩ := H
                          replace H : (contraref11_Write.j2 kj7 (!t164) a0_0 a0_1 a0_2 a0_3 a0_4 a0_5 a0_6 a0_7 a0_8 l0_9 l0_10) = some (r1, r2) := H
                          have A24 := Aside0.mk A240
                          clear A240
                          have H' := Aside0.mk H
                          clear H
                          have hcz25_0 : wc.cell? ⟨gb158, 0, none⟩ = some (.int .i64 a0_0) := (blk_cell BK158.out 0).trans rfl
                          have hcz25_1 : wc.cell? ⟨gb158, 1, none⟩ = some (.int .i64 a0_1) := (blk_cell BK158.out 1).trans rfl
                          have hcz25_2 : wc.cell? ⟨gb158, 2, none⟩ = some (.int .i64 a0_2) := (blk_cell BK158.out 2).trans rfl
                          have hcz25_3 : wc.cell? ⟨gb158, 3, none⟩ = some (.int .i64 a0_3) := (blk_cell BK158.out 3).trans rfl
                          have hcz25_4 : wc.cell? ⟨gb158, 4, none⟩ = some (.int .i64 a0_4) := (blk_cell BK158.out 4).trans rfl
                          have hcz25_5 : wc.cell? ⟨gb158, 5, none⟩ = some (.int .i64 a0_5) := (blk_cell BK158.out 5).trans rfl
                          have hcz25_6 : wc.cell? ⟨gb158, 6, none⟩ = some (.int .i64 a0_6) := (blk_cell BK158.out 6).trans rfl
                          have hcz25_7 : wc.cell? ⟨gb158, 7, none⟩ = some (.int .i64 a0_7) := (blk_cell BK158.out 7).trans rfl
                          have hcz25_8 : wc.cell? ⟨gb158, 8, none⟩ = some (.bool a0_8) := (blk_cell BK158.out 8).trans rfl
                          have hcz25_9 : wc.cell? ⟨gb158, 9, none⟩ = some (.slice A0_9 l0_9.length c0_9) := (blk_cell BK158.out 9).trans rfl
                          have hcz25_10 : wc.cell? ⟨gb158, 10, none⟩ = some (.slice A0_10 l0_10.length c0_10) := (blk_cell BK158.out 10).trans rfl
                          have hfz25_0 := blk_frozen BK158.out 0
                          have hfz25_1 := blk_frozen BK158.out 1
                          have hfz25_2 := blk_frozen BK158.out 2
                          have hfz25_3 := blk_frozen BK158.out 3
                          have hfz25_4 := blk_frozen BK158.out 4
                          have hfz25_5 := blk_frozen BK158.out 5
                          have hfz25_6 := blk_frozen BK158.out 6
                          have hfz25_7 := blk_frozen BK158.out 7
                          have hfz25_8 := blk_frozen BK158.out 8
                          have hfz25_9 := blk_frozen BK158.out 9
                          have hfz25_10 := blk_frozen BK158.out 10
                          go_wp2_with (first | ((with_reducible refine gate_callee (f := 26) rfl ?_); refine goesL_ (some 29) rfl rfl Try.func26 (by kernel_rfl) rfl #[.int .i64 a0_1] rfl (by (try simp only [List.map_toArray, List.map_cons, List.map_nil]); first | done | rfl | (simp only [List.length_drop, List.length_take]; rfl)) ?_; (with_reducible refine (contraref11_small.calls a0_1 true _ A14.out).mono ?_); rintro e w' ⟨rfl, ⟨nd, rfl⟩⟩; refine ⟨_, rfl, ?_⟩) | (go_at_call 26; (with_reducible refine (contraref11_small.calls a0_2 true _ A16.out).mono ?_); rintro e w' ⟨rfl, ⟨nd, rfl⟩⟩) | (go_at_call 26; (with_reducible refine (contraref11_small.calls a0_3 true _ A18.out).mono ?_); rintro e w' ⟨rfl, ⟨nd, rfl⟩⟩) | (go_at_call 26; (with_reducible refine (contraref11_small.calls a0_4 true _ A20.out).mono ?_); rintro e w' ⟨rfl, ⟨nd, rfl⟩⟩) | (go_at_call 26; (with_reducible refine (contraref11_small.calls a0_5 true _ A22.out).mono ?_); rintro e w' ⟨rfl, ⟨nd, rfl⟩⟩) | (go_at_call 26; (with_reducible refine (contraref11_small.calls a0_6 t164 _ A24.out).mono ?_); rintro e w' ⟨rfl, ⟨nd, rfl⟩⟩))
                          go_meet
                          case rel => exact ⟨_, (!t164), (by first | rfl | (simp; done) | (simp [*]; done)), H', ⟨by have := HJ1.out; have := HJ7.out; first | omega | exact Nat.le_refl _⟩, ⟨by (with_reducible repeat (first | refine blk_drewN ?_ _ | refine blk_drew ?_ | refine blk_alloc ?_ _)); exact BK158.out⟩, ⟨by repeat (first | (with_reducible first | exact HB.out | apply below_alloc | apply pw_below_drewN | apply below_drew1 | refine below_set ?_ GE158.out) | exact HB.out)⟩⟩
                        · replace c23 := Bool.eq_false_iff.mpr c23
                          subst c23
                          have H1 : (contraref11_Write.j2 kj7 true a0_0 a0_1 a0_2 a0_3 a0_4 a0_5 a0_6 a0_7 a0_8 l0_9 l0_10) = some (r1, r2) := by rw [if_neg (show ¬ (false = true) by decide)] at H; exact H
                          clear H
                          have H := H1
                          clear H1
                          have H' := Aside0.mk H
                          clear H
                          have hcz26_0 : wc.cell? ⟨gb158, 0, none⟩ = some (.int .i64 a0_0) := (blk_cell BK158.out 0).trans rfl
                          have hcz26_1 : wc.cell? ⟨gb158, 1, none⟩ = some (.int .i64 a0_1) := (blk_cell BK158.out 1).trans rfl
                          have hcz26_2 : wc.cell? ⟨gb158, 2, none⟩ = some (.int .i64 a0_2) := (blk_cell BK158.out 2).trans rfl
                          have hcz26_3 : wc.cell? ⟨gb158, 3, none⟩ = some (.int .i64 a0_3) := (blk_cell BK158.out 3).trans rfl
                          have hcz26_4 : wc.cell? ⟨gb158, 4, none⟩ = some (.int .i64 a0_4) := (blk_cell BK158.out 4).trans rfl
                          have hcz26_5 : wc.cell? ⟨gb158, 5, none⟩ = some (.int .i64 a0_5) := (blk_cell BK158.out 5).trans rfl
                          have hcz26_6 : wc.cell? ⟨gb158, 6, none⟩ = some (.int .i64 a0_6) := (blk_cell BK158.out 6).trans rfl
                          have hcz26_7 : wc.cell? ⟨gb158, 7, none⟩ = some (.int .i64 a0_7) := (blk_cell BK158.out 7).trans rfl
                          have hcz26_8 : wc.cell? ⟨gb158, 8, none⟩ = some (.bool a0_8) := (blk_cell BK158.out 8).trans rfl
                          have hcz26_9 : wc.cell? ⟨gb158, 9, none⟩ = some (.slice A0_9 l0_9.length c0_9) := (blk_cell BK158.out 9).trans rfl
                          have hcz26_10 : wc.cell? ⟨gb158, 10, none⟩ = some (.slice A0_10 l0_10.length c0_10) := (blk_cell BK158.out 10).trans rfl
                          have hfz26_0 := blk_frozen BK158.out 0
                          have hfz26_1 := blk_frozen BK158.out 1
                          have hfz26_2 := blk_frozen BK158.out 2
                          have hfz26_3 := blk_frozen BK158.out 3
                          have hfz26_4 := blk_frozen BK158.out 4
                          have hfz26_5 := blk_frozen BK158.out 5
                          have hfz26_6 := blk_frozen BK158.out 6
                          have hfz26_7 := blk_frozen BK158.out 7
                          have hfz26_8 := blk_frozen BK158.out 8
                          have hfz26_9 := blk_frozen BK158.out 9
                          have hfz26_10 := blk_frozen BK158.out 10
                          go_wp2_with (first | ((with_reducible refine gate_callee (f := 26) rfl ?_); refine goesL_ (some 29) rfl rfl Try.func26 (by kernel_rfl) rfl #[.int .i64 a0_1] rfl (by (try simp only [List.map_toArray, List.map_cons, List.map_nil]); first | done | rfl | (simp only [List.length_drop, List.length_take]; rfl)) ?_; (with_reducible refine (contraref11_small.calls a0_1 true _ A14.out).mono ?_); rintro e w' ⟨rfl, ⟨nd, rfl⟩⟩; refine ⟨_, rfl, ?_⟩) | (go_at_call 26; (with_reducible refine (contraref11_small.calls a0_2 true _ A16.out).mono ?_); rintro e w' ⟨rfl, ⟨nd, rfl⟩⟩) | (go_at_call 26; (with_reducible refine (contraref11_small.calls a0_3 true _ A18.out).mono ?_); rintro e w' ⟨rfl, ⟨nd, rfl⟩⟩) | (go_at_call 26; (with_reducible refine (contraref11_small.calls a0_4 true _ A20.out).mono ?_); rintro e w' ⟨rfl, ⟨nd, rfl⟩⟩) | (go_at_call 26; (with_reducible refine (contraref11_small.calls a0_5 false _ A22.out).mono ?_); rintro e w' ⟨rfl, ⟨nd, rfl⟩⟩))
                          go_meet
                          case rel => exact ⟨_, (true), (by first | rfl | (simp; done) | (simp [*]; done)), H', ⟨by have := HJ1.out; have := HJ7.out; first | omega | exact Nat.le_refl _⟩, ⟨by (with_reducible repeat (first | refine blk_drewN ?_ _ | refine blk_drew ?_ | refine blk_alloc ?_ _)); exact BK158.out⟩, ⟨by repeat (first | (with_reducible first | exact HB.out | apply below_alloc | apply pw_below_drewN | apply below_drew1 | refine below_set ?_ GE158.out) | exact HB.out)⟩⟩
                      · replace c21 := Bool.eq_false_iff.mpr c21
                        subst c21
                        have H1 : (contraref11_Write.j2 kj7 true a0_0 a0_1 a0_2 a0_3 a0_4 a0_5 a0_6 a0_7 a0_8 l0_9 l0_10) = some (r1, r2) := by rw [if_neg (show ¬ (false = true) by decide)] at H; exact H
                        clear H
                        have H := H1
                        clear H1
                        have H' := Aside0.mk H
                        clear H
                        have hcz27_0 : wc.cell? ⟨gb158, 0, none⟩ = some (.int .i64 a0_0) := (blk_cell BK158.out 0).trans rfl
                        have hcz27_1 : wc.cell? ⟨gb158, 1, none⟩ = some (.int .i64 a0_1) := (blk_cell BK158.out 1).trans rfl
                        have hcz27_2 : wc.cell? ⟨gb158, 2, none⟩ = some (.int .i64 a0_2) := (blk_cell BK158.out 2).trans rfl
                        have hcz27_3 : wc.cell? ⟨gb158, 3, none⟩ = some (.int .i64 a0_3) := (blk_cell BK158.out 3).trans rfl
                        have hcz27_4 : wc.cell? ⟨gb158, 4, none⟩ = some (.int .i64 a0_4) := (blk_cell BK158.out 4).trans rfl
                        have hcz27_5 : wc.cell? ⟨gb158, 5, none⟩ = some (.int .i64 a0_5) := (blk_cell BK158.out 5).trans rfl
                        have hcz27_6 : wc.cell? ⟨gb158, 6, none⟩ = some (.int .i64 a0_6) := (blk_cell BK158.out 6).trans rfl
                        have hcz27_7 : wc.cell? ⟨gb158, 7, none⟩ = some (.int .i64 a0_7) := (blk_cell BK158.out 7).trans rfl
                        have hcz27_8 : wc.cell? ⟨gb158, 8, none⟩ = some (.bool a0_8) := (blk_cell BK158.out 8).trans rfl
                        have hcz27_9 : wc.cell? ⟨gb158, 9, none⟩ = some (.slice A0_9 l0_9.length c0_9) := (blk_cell BK158.out 9).trans rfl
                        have hcz27_10 : wc.cell? ⟨gb158, 10, none⟩ = some (.slice A0_10 l0_10.length c0_10) := (blk_cell BK158.out 10).trans rfl
                        have hfz27_0 := blk_frozen BK158.out 0
                        have hfz27_1 := blk_frozen BK158.out 1
                        have hfz27_2 := blk_frozen BK158.out 2
                        have hfz27_3 := blk_frozen BK158.out 3
                        have hfz27_4 := blk_frozen BK158.out 4
                        have hfz27_5 := blk_frozen BK158.out 5
                        have hfz27_6 := blk_frozen BK158.out 6
                        have hfz27_7 := blk_frozen BK158.out 7
                        have hfz27_8 := blk_frozen BK158.out 8
                        have hfz27_9 := blk_frozen BK158.out 9
                        have hfz27_10 := blk_frozen BK158.out 10
                        go_wp2_with (first | ((with_reducible refine gate_callee (f := 26) rfl ?_); refine goesL_ (some 29) rfl rfl Try.func26 (by kernel_rfl) rfl #[.int .i64 a0_1] rfl (by (try simp only [List.map_toArray, List.map_cons, List.map_nil]); first | done | rfl | (simp only [List.length_drop, List.length_take]; rfl)) ?_; (with_reducible refine (contraref11_small.calls a0_1 true _ A14.out).mono ?_); rintro e w' ⟨rfl, ⟨nd, rfl⟩⟩; refine ⟨_, rfl, ?_⟩) | (go_at_call 26; (with_reducible refine (contraref11_small.calls a0_2 true _ A16.out).mono ?_); rintro e w' ⟨rfl, ⟨nd, rfl⟩⟩) | (go_at_call 26; (with_reducible refine (contraref11_small.calls a0_3 true _ A18.out).mono ?_); rintro e w' ⟨rfl, ⟨nd, rfl⟩⟩) | (go_at_call 26; (with_reducible refine (contraref11_small.calls a0_4 false _ A20.out).mono ?_); rintro e w' ⟨rfl, ⟨nd, rfl⟩⟩))
                        go_meet
                        case rel => exact ⟨_, (true), (by first | rfl | (simp; done) | (simp [*]; done)), H', ⟨by have := HJ1.out; have := HJ7.out; first | omega | exact Nat.le_refl _⟩, ⟨by (with_reducible repeat (first | refine blk_drewN ?_ _ | refine blk_drew ?_ | refine blk_alloc ?_ _)); exact BK158.out⟩, ⟨by repeat (first | (with_reducible first | exact HB.out | apply below_alloc | apply pw_below_drewN | apply below_drew1 | refine below_set ?_ GE158.out) | exact HB.out)⟩⟩
                    · replace c19 := Bool.eq_false_iff.mpr c19
                      subst c19
                      have H1 : (contraref11_Write.j2 kj7 true a0_0 a0_1 a0_2 a0_3 a0_4 a0_5 a0_6 a0_7 a0_8 l0_9 l0_10) = some (r1, r2) := by rw [if_neg (show ¬ (false = true) by decide)] at H; exact H
                      clear H
                      have H := H1
                      clear H1
                      have H' := Aside0.mk H
                      clear H
                      have hcz28_0 : wc.cell? ⟨gb158, 0, none⟩ = some (.int .i64 a0_0) := (blk_cell BK158.out 0).trans rfl
                      have hcz28_1 : wc.cell? ⟨gb158, 1, none⟩ = some (.int .i64 a0_1) := (blk_cell BK158.out 1).trans rfl
                      have hcz28_2 : wc.cell? ⟨gb158, 2, none⟩ = some (.int .i64 a0_2) := (blk_cell BK158.out 2).trans rfl
                      have hcz28_3 : wc.cell? ⟨gb158, 3, none⟩ = some (.int .i64 a0_3) := (blk_cell BK158.out 3).trans rfl
                      have hcz28_4 : wc.cell? ⟨gb158, 4, none⟩ = some (.int .i64 a0_4) := (blk_cell BK158.out 4).trans rfl
                      have hcz28_5 : wc.cell? ⟨gb158, 5, none⟩ = some (.int .i64 a0_5) := (blk_cell BK158.out 5).trans rfl
                      have hcz28_6 : wc.cell? ⟨gb158, 6, none⟩ = some (.int .i64 a0_6) := (blk_cell BK158.out 6).trans rfl
                      have hcz28_7 : wc.cell? ⟨gb158, 7, none⟩ = some (.int .i64 a0_7) := (blk_cell BK158.out 7).trans rfl
                      have hcz28_8 : wc.cell? ⟨gb158, 8, none⟩ = some (.bool a0_8) := (blk_cell BK158.out 8).trans rfl
                      have hcz28_9 : wc.cell? ⟨gb158, 9, none⟩ = some (.slice A0_9 l0_9.length c0_9) := (blk_cell BK158.out 9).trans rfl
                      have hcz28_10 : wc.cell? ⟨gb158, 10, none⟩ = some (.slice A0_10 l0_10.length c0_10) := (blk_cell BK158.out 10).trans rfl
                      have hfz28_0 := blk_frozen BK158.out 0
                      have hfz28_1 := blk_frozen BK158.out 1
                      have hfz28_2 := blk_frozen BK158.out 2
                      have hfz28_3 := blk_frozen BK158.out 3
                      have hfz28_4 := blk_frozen BK158.out 4
                      have hfz28_5 := blk_frozen BK158.out 5
                      have hfz28_6 := blk_frozen BK158.out 6
                      have hfz28_7 := blk_frozen BK158.out 7
                      have hfz28_8 := blk_frozen BK158.out 8
                      have hfz28_9 := blk_frozen BK158.out 9
                      have hfz28_10 := blk_frozen BK158.out 10
                      go_wp2_with (first | ((with_reducible refine gate_callee (f := 26) rfl ?_); refine goesL_ (some 29) rfl rfl Try.func26 (by kernel_rfl) rfl #[.int .i64 a0_1] rfl (by (try simp only [List.map_toArray, List.map_cons, List.map_nil]); first | done | rfl | (simp only [List.length_drop, List.length_take]; rfl)) ?_; (with_reducible refine (contraref11_small.calls a0_1 true _ A14.out).mono ?_); rintro e w' ⟨rfl, ⟨nd, rfl⟩⟩; refine ⟨_, rfl, ?_⟩) | (go_at_call 26; (with_reducible refine (contraref11_small.calls a0_2 true _ A16.out).mono ?_); rintro e w' ⟨rfl, ⟨nd, rfl⟩⟩) | (go_at_call 26; (with_reducible refine (contraref11_small.calls a0_3 false _ A18.out).mono ?_); rintro e w' ⟨rfl, ⟨nd, rfl⟩⟩))
                      go_meet
                      case rel => exact ⟨_, (true), (by first | rfl | (simp; done) | (simp [*]; done)), H', ⟨by have := HJ1.out; have := HJ7.out; first | omega | exact Nat.le_refl _⟩, ⟨by (with_reducible repeat (first | refine blk_drewN ?_ _ | refine blk_drew ?_ | refine blk_alloc ?_ _)); exact BK158.out⟩, ⟨by repeat (first | (with_reducible first | exact HB.out | apply below_alloc | apply pw_below_drewN | apply below_drew1 | refine below_set ?_ GE158.out) | exact HB.out)⟩⟩
                  · replace c17 := Bool.eq_false_iff.mpr c17
                    subst c17
                    have H1 : (contraref11_Write.j2 kj7 true a0_0 a0_1 a0_2 a0_3 a0_4 a0_5 a0_6 a0_7 a0_8 l0_9 l0_10) = some (r1, r2) := by rw [if_neg (show ¬ (false = true) by decide)] at H; exact H
                    clear H
                    have H := H1
                    clear H1
                    have H' := Aside0.mk H
                    clear H
                    have hcz29_0 : wc.cell? ⟨gb158, 0, none⟩ = some (.int .i64 a0_0) := (blk_cell BK158.out 0).trans rfl
                    have hcz29_1 : wc.cell? ⟨gb158, 1, none⟩ = some (.int .i64 a0_1) := (blk_cell BK158.out 1).trans rfl
                    have hcz29_2 : wc.cell? ⟨gb158, 2, none⟩ = some (.int .i64 a0_2) := (blk_cell BK158.out 2).trans rfl
                    have hcz29_3 : wc.cell? ⟨gb158, 3, none⟩ = some (.int .i64 a0_3) := (blk_cell BK158.out 3).trans rfl
                    have hcz29_4 : wc.cell? ⟨gb158, 4, none⟩ = some (.int .i64 a0_4) := (blk_cell BK158.out 4).trans rfl
                    have hcz29_5 : wc.cell? ⟨gb158, 5, none⟩ = some (.int .i64 a0_5) := (blk_cell BK158.out 5).trans rfl
                    have hcz29_6 : wc.cell? ⟨gb158, 6, none⟩ = some (.int .i64 a0_6) := (blk_cell BK158.out 6).trans rfl
                    have hcz29_7 : wc.cell? ⟨gb158, 7, none⟩ = some (.int .i64 a0_7) := (blk_cell BK158.out 7).trans rfl
                    have hcz29_8 : wc.cell? ⟨gb158, 8, none⟩ = some (.bool a0_8) := (blk_cell BK158.out 8).trans rfl
                    have hcz29_9 : wc.cell? ⟨gb158, 9, none⟩ = some (.slice A0_9 l0_9.length c0_9) := (blk_cell BK158.out 9).trans rfl
                    have hcz29_10 : wc.cell? ⟨gb158, 10, none⟩ = some (.slice A0_10 l0_10.length c0_10) := (blk_cell BK158.out 10).trans rfl
                    have hfz29_0 := blk_frozen BK158.out 0
                    have hfz29_1 := blk_frozen BK158.out 1
                    have hfz29_2 := blk_frozen BK158.out 2
                    have hfz29_3 := blk_frozen BK158.out 3
                    have hfz29_4 := blk_frozen BK158.out 4
                    have hfz29_5 := blk_frozen BK158.out 5
                    have hfz29_6 := blk_frozen BK158.out 6
                    have hfz29_7 := blk_frozen BK158.out 7
                    have hfz29_8 := blk_frozen BK158.out 8
                    have hfz29_9 := blk_frozen BK158.out 9
                    have hfz29_10 := blk_frozen BK158.out 10
                    go_wp2_with (first | ((with_reducible refine gate_callee (f := 26) rfl ?_); refine goesL_ (some 29) rfl rfl Try.func26 (by kernel_rfl) rfl #[.int .i64 a0_1] rfl (by (try simp only [List.map_toArray, List.map_cons, List.map_nil]); first | done | rfl | (simp only [List.length_drop, List.length_take]; rfl)) ?_; (with_reducible refine (contraref11_small.calls a0_1 true _ A14.out).mono ?_); rintro e w' ⟨rfl, ⟨nd, rfl⟩⟩; refine ⟨_, rfl, ?_⟩) | (go_at_call 26; (with_reducible refine (contraref11_small.calls a0_2 false _ A16.out).mono ?_); rintro e w' ⟨rfl, ⟨nd, rfl⟩⟩))
                    go_meet
                    case rel => exact ⟨_, (true), (by first | rfl | (simp; done) | (simp [*]; done)), H', ⟨by have := HJ1.out; have := HJ7.out; first | omega | exact Nat.le_refl _⟩, ⟨by (with_reducible repeat (first | refine blk_drewN ?_ _ | refine blk_drew ?_ | refine blk_alloc ?_ _)); exact BK158.out⟩, ⟨by repeat (first | (with_reducible first | exact HB.out | apply below_alloc | apply pw_below_drewN | apply below_drew1 | refine below_set ?_ GE158.out) | exact HB.out)⟩⟩
                · replace c15 := Bool.eq_false_iff.mpr c15
                  subst c15
                  have H1 : (contraref11_Write.j2 kj7 true a0_0 a0_1 a0_2 a0_3 a0_4 a0_5 a0_6 a0_7 a0_8 l0_9 l0_10) = some (r1, r2) := by rw [if_neg (show ¬ (false = true) by decide)] at H; exact H
                  clear H
                  have H := H1
                  clear H1
                  have H' := Aside0.mk H
                  clear H
                  have hcz30_0 : wc.cell? ⟨gb158, 0, none⟩ = some (.int .i64 a0_0) := (blk_cell BK158.out 0).trans rfl
                  have hcz30_1 : wc.cell? ⟨gb158, 1, none⟩ = some (.int .i64 a0_1) := (blk_cell BK158.out 1).trans rfl
                  have hcz30_2 : wc.cell? ⟨gb158, 2, none⟩ = some (.int .i64 a0_2) := (blk_cell BK158.out 2).trans rfl
                  have hcz30_3 : wc.cell? ⟨gb158, 3, none⟩ = some (.int .i64 a0_3) := (blk_cell BK158.out 3).trans rfl
                  have hcz30_4 : wc.cell? ⟨gb158, 4, none⟩ = some (.int .i64 a0_4) := (blk_cell BK158.out 4).trans rfl
                  have hcz30_5 : wc.cell? ⟨gb158, 5, none⟩ = some (.int .i64 a0_5) := (blk_cell BK158.out 5).trans rfl
                  have hcz30_6 : wc.cell? ⟨gb158, 6, none⟩ = some (.int .i64 a0_6) := (blk_cell BK158.out 6).trans rfl
                  have hcz30_7 : wc.cell? ⟨gb158, 7, none⟩ = some (.int .i64 a0_7) := (blk_cell BK158.out 7).trans rfl
                  have hcz30_8 : wc.cell? ⟨gb158, 8, none⟩ = some (.bool a0_8) := (blk_cell BK158.out 8).trans rfl
                  have hcz30_9 : wc.cell? ⟨gb158, 9, none⟩ = some (.slice A0_9 l0_9.length c0_9) := (blk_cell BK158.out 9).trans rfl
                  have hcz30_10 : wc.cell? ⟨gb158, 10, none⟩ = some (.slice A0_10 l0_10.length c0_10) := (blk_cell BK158.out 10).trans rfl
                  have hfz30_0 := blk_frozen BK158.out 0
                  have hfz30_1 := blk_frozen BK158.out 1
                  have hfz30_2 := blk_frozen BK158.out 2
                  have hfz30_3 := blk_frozen BK158.out 3
                  have hfz30_4 := blk_frozen BK158.out 4
                  have hfz30_5 := blk_frozen BK158.out 5
                  have hfz30_6 := blk_frozen BK158.out 6
                  have hfz30_7 := blk_frozen BK158.out 7
                  have hfz30_8 := blk_frozen BK158.out 8
                  have hfz30_9 := blk_frozen BK158.out 9
                  have hfz30_10 := blk_frozen BK158.out 10
                  go_wp2_with (first | ((with_reducible refine gate_callee (f := 26) rfl ?_); refine goesL_ (some 29) rfl rfl Try.func26 (by kernel_rfl) rfl #[.int .i64 a0_1] rfl (by (try simp only [List.map_toArray, List.map_cons, List.map_nil]); first | done | rfl | (simp only [List.length_drop, List.length_take]; rfl)) ?_; (with_reducible refine (contraref11_small.calls a0_1 false _ A14.out).mono ?_); rintro e w' ⟨rfl, ⟨nd, rfl⟩⟩; refine ⟨_, rfl, ?_⟩))
                  go_meet
                  case rel => exact ⟨_, (true), (by first | rfl | (simp; done) | (simp [*]; done)), H', ⟨by have := HJ1.out; have := HJ7.out; first | omega | exact Nat.le_refl _⟩, ⟨by (with_reducible repeat (first | refine blk_drewN ?_ _ | refine blk_drew ?_ | refine blk_alloc ?_ _)); exact BK158.out⟩, ⟨by repeat (first | (with_reducible first | exact HB.out | apply below_alloc | apply pw_below_drewN | apply below_drew1 | refine below_set ?_ GE158.out) | exact HB.out)⟩⟩
              case rest =>
                clear HC13
                try clear c1
                try clear c2
                try clear p2
                try clear c4
                try clear c4b0
                try clear c7
                try clear c9
                try clear c9b0
                try clear c9b1
                try clear c12
                try clear c13
                try clear c15
                try clear c17
                try clear c19
                try clear c21
                try clear c23
                try clear c26
                try clear hcz10_0
                try clear hcz10_1
                try clear hcz10_10
                try clear hcz10_2
                try clear hcz10_3
                try clear hcz10_4
                try clear hcz10_5
                try clear hcz10_6
                try clear hcz10_7
                try clear hcz10_8
                try clear hcz10_9
                try clear hcz11_0
                try clear hcz11_1
                try clear hcz11_10
                try clear hcz11_2
                try clear hcz11_3
                try clear hcz11_4
                try clear hcz11_5
                try clear hcz11_6
                try clear hcz11_7
                try clear hcz11_8
                try clear hcz11_9
                try clear hcz25_0
                try clear hcz25_1
                try clear hcz25_10
                try clear hcz25_2
                try clear hcz25_3
                try clear hcz25_4
                try clear hcz25_5
                try clear hcz25_6
                try clear hcz25_7
                try clear hcz25_8
                try clear hcz25_9
                try clear hcz26_0
                try clear hcz26_1
                try clear hcz26_10
                try clear hcz26_2
                try clear hcz26_3
                try clear hcz26_4
                try clear hcz26_5
                try clear hcz26_6
                try clear hcz26_7
                try clear hcz26_8
                try clear hcz26_9
                try clear hcz27_0
                try clear hcz27_1
                try clear hcz27_10
                try clear hcz27_2
                try clear hcz27_3
                try clear hcz27_4
                try clear hcz27_5
                try clear hcz27_6
                try clear hcz27_7
                try clear hcz27_8
                try clear hcz27_9
                try clear hcz28_0
                try clear hcz28_1
                try clear hcz28_10
                try clear hcz28_2
                try clear hcz28_3
                try clear hcz28_4
                try clear hcz28_5
                try clear hcz28_6
                try clear hcz28_7
                try clear hcz28_8
                try clear hcz28_9
                try clear hcz29_0
                try clear hcz29_1
                try clear hcz29_10
                try clear hcz29_2
                try clear hcz29_3
                try clear hcz29_4
                try clear hcz29_5
                try clear hcz29_6
                try clear hcz29_7
                try clear hcz29_8
                try clear hcz29_9
                try clear hcz30_0
                try clear hcz30_1
                try clear hcz30_10
                try clear hcz30_2
                try clear hcz30_3
                try clear hcz30_4
                try clear hcz30_5
                try clear hcz30_6
                try clear hcz30_7
                try clear hcz30_8
                try clear hcz30_9
                try clear hcz5_0
                try clear hcz5_1
                try clear hcz5_10
                try clear hcz5_2
                try clear hcz5_3
                try clear hcz5_4
                try clear hcz5_5
                try clear hcz5_6
                try clear hcz5_7
                try clear hcz5_8
                try clear hcz5_9
                try clear hcz6_0
                try clear hcz6_1
                try clear hcz6_10
                try clear hcz6_2
                try clear hcz6_3
                try clear hcz6_4
                try clear hcz6_5
                try clear hcz6_6
                try clear hcz6_7
                try clear hcz6_8
                try clear hcz6_9
                try clear hfz10_0
                try clear hfz10_1
                try clear hfz10_10
                try clear hfz10_2
                try clear hfz10_3
                try clear hfz10_4
                try clear hfz10_5
                try clear hfz10_6
                try clear hfz10_7
                try clear hfz10_8
                try clear hfz10_9
                try clear hfz11_0
                try clear hfz11_1
                try clear hfz11_10
                try clear hfz11_2
                try clear hfz11_3
                try clear hfz11_4
                try clear hfz11_5
                try clear hfz11_6
                try clear hfz11_7
                try clear hfz11_8
                try clear hfz11_9
                try clear hfz25_0
                try clear hfz25_1
                try clear hfz25_10
                try clear hfz25_2
                try clear hfz25_3
                try clear hfz25_4
                try clear hfz25_5
                try clear hfz25_6
                try clear hfz25_7
                try clear hfz25_8
                try clear hfz25_9
                try clear hfz26_0
                try clear hfz26_1
                try clear hfz26_10
                try clear hfz26_2
                try clear hfz26_3
                try clear hfz26_4
                try clear hfz26_5
                try clear hfz26_6
                try clear hfz26_7
                try clear hfz26_8
                try clear hfz26_9
                try clear hfz27_0
                try clear hfz27_1
                try clear hfz27_10
                try clear hfz27_2
                try clear hfz27_3
                try clear hfz27_4
                try clear hfz27_5
                try clear hfz27_6
                try clear hfz27_7
                try clear hfz27_8
                try clear hfz27_9
                try clear hfz28_0
                try clear hfz28_1
                try clear hfz28_10
                try clear hfz28_2
                try clear hfz28_3
                try clear hfz28_4
                try clear hfz28_5
                try clear hfz28_6
                try clear hfz28_7
                try clear hfz28_8
                try clear hfz28_9
                try clear hfz29_0
                try clear hfz29_1
                try clear hfz29_10
                try clear hfz29_2
                try clear hfz29_3
                try clear hfz29_4
                try clear hfz29_5
                try clear hfz29_6
                try clear hfz29_7
                try clear hfz29_8
                try clear hfz29_9
                try clear hfz30_0
                try clear hfz30_1
                try clear hfz30_10
                try clear hfz30_2
                try clear hfz30_3
                try clear hfz30_4
                try clear hfz30_5
                try clear hfz30_6
                try clear hfz30_7
                try clear hfz30_8
                try clear hfz30_9
                try clear hfz5_0
                try clear hfz5_1
                try clear hfz5_10
                try clear hfz5_2
                try clear hfz5_3
                try clear hfz5_4
                try clear hfz5_5
                try clear hfz5_6
                try clear hfz5_7
                try clear hfz5_8
                try clear hfz5_9
                try clear hfz6_0
                try clear hfz6_1
                try clear hfz6_10
                try clear hfz6_2
                try clear hfz6_3
                try clear hfz6_4
                try clear hfz6_5
                try clear hfz6_6
                try clear hfz6_7
                try clear hfz6_8
                try clear hfz6_9
                try clear p2
                obtain ⟨kq, x61_12, rfl, HA, HJ12, BK158, HB⟩ := hcut
                cases kq with
                | zero => exact absurd HA.out (by simp [contraref11_Write.j2])
                | succ kj12 =>
                  have H := HA.out
                  clear HA
                  simp only [contraref11_Write.j2] at H
                  by_cases c31 : x61_12 = true
                  · subst c31
                    have H1 : (some ((⟨#[]⟩ : ByteArray), 1)) = some (r1, r2) := by rw [if_pos rfl] at H; exact H
                    clear H
                    have H := H1
                    clear H1
                    simp only [Option.some.injEq, Prod.mk.injEq] at H
                    obtain ⟨rfl, rfl⟩ := H
                    go_wp2
                    go_ret2
                    exact ⟨by first | rfl | (simp [errW_none, errW_some] <;> rfl) | (simp [*, errW_none, errW_some] <;> rfl), by repeat (first | (with_reducible first | exact HB.out | apply below_alloc | apply pw_below_drewN | apply below_drew1 | refine below_set ?_ GE158.out) | exact HB.out)⟩
                  · replace c31 := Bool.eq_false_iff.mpr c31
                    subst c31
                    have H1 : ((contraref04_Num.f kj12 a0_0).bind fun t165 => ((contraref04_Num.f kj12 a0_1).bind fun t166 => (if t165.size + t166.size ≤ 9223372036854775807 then ((contraref04_Num.f kj12 a0_2).bind fun t167 => (if (t165 ++ t166).size + t167.size ≤ 9223372036854775807 then ((contraref04_Num.f kj12 a0_3).bind fun t168 => (if ((t165 ++ t166) ++ t167).size + t168.size ≤ 9223372036854775807 then ((contraref04_Num.f kj12 a0_4).bind fun t169 => (if (((t165 ++ t166) ++ t167) ++ t168).size + t169.size ≤ 9223372036854775807 then ((contraref04_Num.f kj12 a0_5).bind fun t170 => (if ((((t165 ++ t166) ++ t167) ++ t168) ++ t169).size + t170.size ≤ 9223372036854775807 then ((contraref04_Num.f kj12 a0_6).bind fun t171 => (if (((((t165 ++ t166) ++ t167) ++ t168) ++ t169) ++ t170).size + t171.size ≤ 9223372036854775807 then ((contraref04_Num.f kj12 a0_7).bind fun t172 => ((contraref04_Bool.f a0_8).bind fun t173 => (if t172.size + t173.size ≤ 9223372036854775807 then ((contraref04_Num.f kj12 (l0_9.length : Int)).bind fun t174 => (if (t172 ++ t173).size + t174.size ≤ 9223372036854775807 then (if ((((((t165 ++ t166) ++ t167) ++ t168) ++ t169) ++ t170) ++ t171).size + ((t172 ++ t173) ++ t174).size ≤ 9223372036854775807 then (contraref11_Write.l0 kj12 (((((((t165 ++ t166) ++ t167) ++ t168) ++ t169) ++ t170) ++ t171) ++ ((t172 ++ t173) ++ t174)) 0 a0_0 a0_1 a0_2 a0_3 a0_4 a0_5 a0_6 a0_7 a0_8 l0_9 l0_10) else (none)) else (none))) else (none)))) else (none))) else (none))) else (none))) else (none))) else (none))) else (none)))) = some (r1, r2) := by rw [if_neg (show ¬ (false = true) by decide)] at H; exact H
                    clear H
                    have H := H1
                    clear H1
                    replace H := Option.bind_eq_some_iff.mp H
                    obtain ⟨t165, A320, H⟩ := H
                    replace H : ((contraref04_Num.f kj12 a0_1).bind fun t166 => (if t165.size + t166.size ≤ 9223372036854775807 then ((contraref04_Num.f kj12 a0_2).bind fun t167 => (if (t165 ++ t166).size + t167.size ≤ 9223372036854775807 then ((contraref04_Num.f kj12 a0_3).bind fun t168 => (if ((t165 ++ t166) ++ t167).size + t168.size ≤ 9223372036854775807 then ((contraref04_Num.f kj12 a0_4).bind fun t169 => (if (((t165 ++ t166) ++ t167) ++ t168).size + t169.size ≤ 9223372036854775807 then ((contraref04_Num.f kj12 a0_5).bind fun t170 => (if ((((t165 ++ t166) ++ t167) ++ t168) ++ t169).size + t170.size ≤ 9223372036854775807 then ((contraref04_Num.f kj12 a0_6).bind fun t171 => (if (((((t165 ++ t166) ++ t167) ++ t168) ++ t169) ++ t170).size + t171.size ≤ 9223372036854775807 then ((contraref04_Num.f kj12 a0_7).bind fun t172 => ((contraref04_Bool.f a0_8).bind fun t173 => (if t172.size + t173.size ≤ 9223372036854775807 then ((contraref04_Num.f kj12 (l0_9.length : Int)).bind fun t174 => (if (t172 ++ t173).size + t174.size ≤ 9223372036854775807 then (if ((((((t165 ++ t166) ++ t167) ++ t168) ++ t169) ++ t170) ++ t171).size + ((t172 ++ t173) ++ t174).size ≤ 9223372036854775807 then (contraref11_Write.l0 kj12 (((((((t165 ++ t166) ++ t167) ++ t168) ++ t169) ++ t170) ++ t171) ++ ((t172 ++ t173) ++ t174)) 0 a0_0 a0_1 a0_2 a0_3 a0_4 a0_5 a0_6 a0_7 a0_8 l0_9 l0_10) else (none)) else (none))) else (none)))) else (none))) else (none))) else (none))) else (none))) else (none))) else (none))) = some (r1, r2) := H
                    have A32 := Aside0.mk A320
                    clear A320
                    replace H := Option.bind_eq_some_iff.mp H
                    obtain ⟨t166, A330, H⟩ := H
                    replace H : (if t165.size + t166.size ≤ 9223372036854775807 then ((contraref04_Num.f kj12 a0_2).bind fun t167 => (if (t165 ++ t166).size + t167.size ≤ 9223372036854775807 then ((contraref04_Num.f kj12 a0_3).bind fun t168 => (if ((t165 ++ t166) ++ t167).size + t168.size ≤ 9223372036854775807 then ((contraref04_Num.f kj12 a0_4).bind fun t169 => (if (((t165 ++ t166) ++ t167) ++ t168).size + t169.size ≤ 9223372036854775807 then ((contraref04_Num.f kj12 a0_5).bind fun t170 => (if ((((t165 ++ t166) ++ t167) ++ t168) ++ t169).size + t170.size ≤ 9223372036854775807 then ((contraref04_Num.f kj12 a0_6).bind fun t171 => (if (((((t165 ++ t166) ++ t167) ++ t168) ++ t169) ++ t170).size + t171.size ≤ 9223372036854775807 then ((contraref04_Num.f kj12 a0_7).bind fun t172 => ((contraref04_Bool.f a0_8).bind fun t173 => (if t172.size + t173.size ≤ 9223372036854775807 then ((contraref04_Num.f kj12 (l0_9.length : Int)).bind fun t174 => (if (t172 ++ t173).size + t174.size ≤ 9223372036854775807 then (if ((((((t165 ++ t166) ++ t167) ++ t168) ++ t169) ++ t170) ++ t171).size + ((t172 ++ t173) ++ t174).size ≤ 9223372036854775807 then (contraref11_Write.l0 kj12 (((((((t165 ++ t166) ++ t167) ++ t168) ++ t169) ++ t170) ++ t171) ++ ((t172 ++ t173) ++ t174)) 0 a0_0 a0_1 a0_2 a0_3 a0_4 a0_5 a0_6 a0_7 a0_8 l0_9 l0_10) else (none)) else (none))) else (none)))) else (none))) else (none))) else (none))) else (none))) else (none))) else (none)) = some (r1, r2) := H
                    have A33 := Aside0.mk A330
                    clear A330
                    by_cases c34 : t165.size + t166.size ≤ 9223372036854775807
                    · rw [if_pos c34] at H
                      have c34b0 := eq_true c34
                      have c34b1 : decide (t165.size + t166.size ≤ 9223372036854775807) = true := decide_eq_true c34
                      try have c34b2 : (9223372036854775807 < t165.size + t166.size) = False := eq_false (Nat.not_lt.2 c34)
                      try have c34b3 := c34b2
                      try simp only [ByteArray.size_append] at c34b3
                      replace H := Option.bind_eq_some_iff.mp H
                      obtain ⟨t167, A350, H⟩ := H
                      replace H : (if (t165 ++ t166).size + t167.size ≤ 9223372036854775807 then ((contraref04_Num.f kj12 a0_3).bind fun t168 => (if ((t165 ++ t166) ++ t167).size + t168.size ≤ 9223372036854775807 then ((contraref04_Num.f kj12 a0_4).bind fun t169 => (if (((t165 ++ t166) ++ t167) ++ t168).size + t169.size ≤ 9223372036854775807 then ((contraref04_Num.f kj12 a0_5).bind fun t170 => (if ((((t165 ++ t166) ++ t167) ++ t168) ++ t169).size + t170.size ≤ 9223372036854775807 then ((contraref04_Num.f kj12 a0_6).bind fun t171 => (if (((((t165 ++ t166) ++ t167) ++ t168) ++ t169) ++ t170).size + t171.size ≤ 9223372036854775807 then ((contraref04_Num.f kj12 a0_7).bind fun t172 => ((contraref04_Bool.f a0_8).bind fun t173 => (if t172.size + t173.size ≤ 9223372036854775807 then ((contraref04_Num.f kj12 (l0_9.length : Int)).bind fun t174 => (if (t172 ++ t173).size + t174.size ≤ 9223372036854775807 then (if ((((((t165 ++ t166) ++ t167) ++ t168) ++ t169) ++ t170) ++ t171).size + ((t172 ++ t173) ++ t174).size ≤ 9223372036854775807 then (contraref11_Write.l0 kj12 (((((((t165 ++ t166) ++ t167) ++ t168) ++ t169) ++ t170) ++ t171) ++ ((t172 ++ t173) ++ t174)) 0 a0_0 a0_1 a0_2 a0_3 a0_4 a0_5 a0_6 a0_7 a0_8 l0_9 l0_10) else (none)) else (none))) else (none)))) else (none))) else (none))) else (none))) else (none))) else (none)) = some (r1, r2) := H
                      have A35 := Aside0.mk A350
                      clear A350
                      by_cases c36 : (t165 ++ t166).size + t167.size ≤ 9223372036854775807
                      · rw [if_pos c36] at H
                        have c36b0 := eq_true c36
                        have c36b1 : decide ((t165 ++ t166).size + t167.size ≤ 9223372036854775807) = true := decide_eq_true c36
                        try have c36b2 : (9223372036854775807 < (t165 ++ t166).size + t167.size) = False := eq_false (Nat.not_lt.2 c36)
                        try have c36b3 := c36b2
                        try simp only [ByteArray.size_append] at c36b3
                        replace H := Option.bind_eq_some_iff.mp H
                        obtain ⟨t168, A370, H⟩ := H
                        replace H : (if ((t165 ++ t166) ++ t167).size + t168.size ≤ 9223372036854775807 then ((contraref04_Num.f kj12 a0_4).bind fun t169 => (if (((t165 ++ t166) ++ t167) ++ t168).size + t169.size ≤ 9223372036854775807 then ((contraref04_Num.f kj12 a0_5).bind fun t170 => (if ((((t165 ++ t166) ++ t167) ++ t168) ++ t169).size + t170.size ≤ 9223372036854775807 then ((contraref04_Num.f kj12 a0_6).bind fun t171 => (if (((((t165 ++ t166) ++ t167) ++ t168) ++ t169) ++ t170).size + t171.size ≤ 9223372036854775807 then ((contraref04_Num.f kj12 a0_7).bind fun t172 => ((contraref04_Bool.f a0_8).bind fun t173 => (if t172.size + t173.size ≤ 9223372036854775807 then ((contraref04_Num.f kj12 (l0_9.length : Int)).bind fun t174 => (if (t172 ++ t173).size + t174.size ≤ 9223372036854775807 then (if ((((((t165 ++ t166) ++ t167) ++ t168) ++ t169) ++ t170) ++ t171).size + ((t172 ++ t173) ++ t174).size ≤ 9223372036854775807 then (contraref11_Write.l0 kj12 (((((((t165 ++ t166) ++ t167) ++ t168) ++ t169) ++ t170) ++ t171) ++ ((t172 ++ t173) ++ t174)) 0 a0_0 a0_1 a0_2 a0_3 a0_4 a0_5 a0_6 a0_7 a0_8 l0_9 l0_10) else (none)) else (none))) else (none)))) else (none))) else (none))) else (none))) else (none)) = some (r1, r2) := H
                        have A37 := Aside0.mk A370
                        clear A370
                        by_cases c38 : ((t165 ++ t166) ++ t167).size + t168.size ≤ 9223372036854775807
                        · rw [if_pos c38] at H
                          have c38b0 := eq_true c38
                          have c38b1 : decide (((t165 ++ t166) ++ t167).size + t168.size ≤ 9223372036854775807) = true := decide_eq_true c38
                          try have c38b2 : (9223372036854775807 < ((t165 ++ t166) ++ t167).size + t168.size) = False := eq_false (Nat.not_lt.2 c38)
                          try have c38b3 := c38b2
                          try simp only [ByteArray.size_append] at c38b3
                          replace H := Option.bind_eq_some_iff.mp H
                          obtain ⟨t169, A390, H⟩ := H
                          replace H : (if (((t165 ++ t166) ++ t167) ++ t168).size + t169.size ≤ 9223372036854775807 then ((contraref04_Num.f kj12 a0_5).bind fun t170 => (if ((((t165 ++ t166) ++ t167) ++ t168) ++ t169).size + t170.size ≤ 9223372036854775807 then ((contraref04_Num.f kj12 a0_6).bind fun t171 => (if (((((t165 ++ t166) ++ t167) ++ t168) ++ t169) ++ t170).size + t171.size ≤ 9223372036854775807 then ((contraref04_Num.f kj12 a0_7).bind fun t172 => ((contraref04_Bool.f a0_8).bind fun t173 => (if t172.size + t173.size ≤ 9223372036854775807 then ((contraref04_Num.f kj12 (l0_9.length : Int)).bind fun t174 => (if (t172 ++ t173).size + t174.size ≤ 9223372036854775807 then (if ((((((t165 ++ t166) ++ t167) ++ t168) ++ t169) ++ t170) ++ t171).size + ((t172 ++ t173) ++ t174).size ≤ 9223372036854775807 then (contraref11_Write.l0 kj12 (((((((t165 ++ t166) ++ t167) ++ t168) ++ t169) ++ t170) ++ t171) ++ ((t172 ++ t173) ++ t174)) 0 a0_0 a0_1 a0_2 a0_3 a0_4 a0_5 a0_6 a0_7 a0_8 l0_9 l0_10) else (none)) else (none))) else (none)))) else (none))) else (none))) else (none)) = some (r1, r2) := H
                          have A39 := Aside0.mk A390
                          clear A390
                          by_cases c40 : (((t165 ++ t166) ++ t167) ++ t168).size + t169.size ≤ 9223372036854775807
                          · rw [if_pos c40] at H
                            have c40b0 := eq_true c40
                            have c40b1 : decide ((((t165 ++ t166) ++ t167) ++ t168).size + t169.size ≤ 9223372036854775807) = true := decide_eq_true c40
                            try have c40b2 : (9223372036854775807 < (((t165 ++ t166) ++ t167) ++ t168).size + t169.size) = False := eq_false (Nat.not_lt.2 c40)
                            try have c40b3 := c40b2
                            try simp only [ByteArray.size_append] at c40b3
                            replace H := Option.bind_eq_some_iff.mp H
                            obtain ⟨t170, A410, H⟩ := H
                            replace H : (if ((((t165 ++ t166) ++ t167) ++ t168) ++ t169).size + t170.size ≤ 9223372036854775807 then ((contraref04_Num.f kj12 a0_6).bind fun t171 => (if (((((t165 ++ t166) ++ t167) ++ t168) ++ t169) ++ t170).size + t171.size ≤ 9223372036854775807 then ((contraref04_Num.f kj12 a0_7).bind fun t172 => ((contraref04_Bool.f a0_8).bind fun t173 => (if t172.size + t173.size ≤ 9223372036854775807 then ((contraref04_Num.f kj12 (l0_9.length : Int)).bind fun t174 => (if (t172 ++ t173).size + t174.size ≤ 9223372036854775807 then (if ((((((t165 ++ t166) ++ t167) ++ t168) ++ t169) ++ t170) ++ t171).size + ((t172 ++ t173) ++ t174).size ≤ 9223372036854775807 then (contraref11_Write.l0 kj12 (((((((t165 ++ t166) ++ t167) ++ t168) ++ t169) ++ t170) ++ t171) ++ ((t172 ++ t173) ++ t174)) 0 a0_0 a0_1 a0_2 a0_3 a0_4 a0_5 a0_6 a0_7 a0_8 l0_9 l0_10) else (none)) else (none))) else (none)))) else (none))) else (none)) = some (r1, r2) := H
                            have A41 := Aside0.mk A410
                            clear A410
                            by_cases c42 : ((((t165 ++ t166) ++ t167) ++ t168) ++ t169).size + t170.size ≤ 9223372036854775807
                            · rw [if_pos c42] at H
                              have c42b0 := eq_true c42
                              have c42b1 : decide (((((t165 ++ t166) ++ t167) ++ t168) ++ t169).size + t170.size ≤ 9223372036854775807) = true := decide_eq_true c42
                              try have c42b2 : (9223372036854775807 < ((((t165 ++ t166) ++ t167) ++ t168) ++ t169).size + t170.size) = False := eq_false (Nat.not_lt.2 c42)
                              try have c42b3 := c42b2
                              try simp only [ByteArray.size_append] at c42b3
                              replace H := Option.bind_eq_some_iff.mp H
                              obtain ⟨t171, A430, H⟩ := H
                              replace H : (if (((((t165 ++ t166) ++ t167) ++ t168) ++ t169) ++ t170).size + t171.size ≤ 9223372036854775807 then ((contraref04_Num.f kj12 a0_7).bind fun t172 => ((contraref04_Bool.f a0_8).bind fun t173 => (if t172.size + t173.size ≤ 9223372036854775807 then ((contraref04_Num.f kj12 (l0_9.length : Int)).bind fun t174 => (if (t172 ++ t173).size + t174.size ≤ 9223372036854775807 then (if ((((((t165 ++ t166) ++ t167) ++ t168) ++ t169) ++ t170) ++ t171).size + ((t172 ++ t173) ++ t174).size ≤ 9223372036854775807 then (contraref11_Write.l0 kj12 (((((((t165 ++ t166) ++ t167) ++ t168) ++ t169) ++ t170) ++ t171) ++ ((t172 ++ t173) ++ t174)) 0 a0_0 a0_1 a0_2 a0_3 a0_4 a0_5 a0_6 a0_7 a0_8 l0_9 l0_10) else (none)) else (none))) else (none)))) else (none)) = some (r1, r2) := H
                              have A43 := Aside0.mk A430
                              clear A430
                              by_cases c44 : (((((t165 ++ t166) ++ t167) ++ t168) ++ t169) ++ t170).size + t171.size ≤ 9223372036854775807
                              · rw [if_pos c44] at H
                                have c44b0 := eq_true c44
                                have c44b1 : decide ((((((t165 ++ t166) ++ t167) ++ t168) ++ t169) ++ t170).size + t171.size ≤ 9223372036854775807) = true := decide_eq_true c44
                                try have c44b2 : (9223372036854775807 < (((((t165 ++ t166) ++ t167) ++ t168) ++ t169) ++ t170).size + t171.size) = False := eq_false (Nat.not_lt.2 c44)
                                try have c44b3 := c44b2
                                try simp only [ByteArray.size_append] at c44b3
                                replace H := Option.bind_eq_some_iff.mp H
                                obtain ⟨t172, A450, H⟩ := H
                                replace H : ((contraref04_Bool.f a0_8).bind fun t173 => (if t172.size + t173.size ≤ 9223372036854775807 then ((contraref04_Num.f kj12 (l0_9.length : Int)).bind fun t174 => (if (t172 ++ t173).size + t174.size ≤ 9223372036854775807 then (if ((((((t165 ++ t166) ++ t167) ++ t168) ++ t169) ++ t170) ++ t171).size + ((t172 ++ t173) ++ t174).size ≤ 9223372036854775807 then (contraref11_Write.l0 kj12 (((((((t165 ++ t166) ++ t167) ++ t168) ++ t169) ++ t170) ++ t171) ++ ((t172 ++ t173) ++ t174)) 0 a0_0 a0_1 a0_2 a0_3 a0_4 a0_5 a0_6 a0_7 a0_8 l0_9 l0_10) else (none)) else (none))) else (none))) = some (r1, r2) := H
                                have A45 := Aside0.mk A450
                                clear A450
                                replace H := Option.bind_eq_some_iff.mp H
                                obtain ⟨t173, A460, H⟩ := H
                                replace H : (if t172.size + t173.size ≤ 9223372036854775807 then ((contraref04_Num.f kj12 (l0_9.length : Int)).bind fun t174 => (if (t172 ++ t173).size + t174.size ≤ 9223372036854775807 then (if ((((((t165 ++ t166) ++ t167) ++ t168) ++ t169) ++ t170) ++ t171).size + ((t172 ++ t173) ++ t174).size ≤ 9223372036854775807 then (contraref11_Write.l0 kj12 (((((((t165 ++ t166) ++ t167) ++ t168) ++ t169) ++ t170) ++ t171) ++ ((t172 ++ t173) ++ t174)) 0 a0_0 a0_1 a0_2 a0_3 a0_4 a0_5 a0_6 a0_7 a0_8 l0_9 l0_10) else (none)) else (none))) else (none)) = some (r1, r2) := H
                                have A46 := Aside0.mk A460
                                clear A460
                                by_cases c47 : t172.size + t173.size ≤ 9223372036854775807
                                · rw [if_pos c47] at H
                                  have c47b0 := eq_true c47
                                  have c47b1 : decide (t172.size + t173.size ≤ 9223372036854775807) = true := decide_eq_true c47
                                  try have c47b2 : (9223372036854775807 < t172.size + t173.size) = False := eq_false (Nat.not_lt.2 c47)
                                  try have c47b3 := c47b2
                                  try simp only [ByteArray.size_append] at c47b3
                                  replace H := Option.bind_eq_some_iff.mp H
                                  obtain ⟨t174, A480, H⟩ := H
                                  replace H : (if (t172 ++ t173).size + t174.size ≤ 9223372036854775807 then (if ((((((t165 ++ t166) ++ t167) ++ t168) ++ t169) ++ t170) ++ t171).size + ((t172 ++ t173) ++ t174).size ≤ 9223372036854775807 then (contraref11_Write.l0 kj12 (((((((t165 ++ t166) ++ t167) ++ t168) ++ t169) ++ t170) ++ t171) ++ ((t172 ++ t173) ++ t174)) 0 a0_0 a0_1 a0_2 a0_3 a0_4 a0_5 a0_6 a0_7 a0_8 l0_9 l0_10) else (none)) else (none)) = some (r1, r2) := H
                                  have A48 := Aside0.mk A480
                                  clear A480
                                  by_cases c49 : (t172 ++ t173).size + t174.size ≤ 9223372036854775807
                                  · rw [if_pos c49] at H
                                    have c49b0 := eq_true c49
                                    have c49b1 : decide ((t172 ++ t173).size + t174.size ≤ 9223372036854775807) = true := decide_eq_true c49
                                    try have c49b2 : (9223372036854775807 < (t172 ++ t173).size + t174.size) = False := eq_false (Nat.not_lt.2 c49)
                                    try have c49b3 := c49b2
                                    try simp only [ByteArray.size_append] at c49b3
                                    by_cases c50 : ((((((t165 ++ t166) ++ t167) ++ t168) ++ t169) ++ t170) ++ t171).size + ((t172 ++ t173) ++ t174).size ≤ 9223372036854775807
                                    · rw [if_pos c50] at H
                                      have c50b0 := eq_true c50
                                      have c50b1 : decide (((((((t165 ++ t166) ++ t167) ++ t168) ++ t169) ++ t170) ++ t171).size + ((t172 ++ t173) ++ t174).size ≤ 9223372036854775807) = true := decide_eq_true c50
                                      try have c50b2 : (9223372036854775807 < ((((((t165 ++ t166) ++ t167) ++ t168) ++ t169) ++ t170) ++ t171).size + ((t172 ++ t173) ++ t174).size) = False := eq_false (Nat.not_lt.2 c50)
                                      try have c50b3 := c50b2
                                      try simp only [ByteArray.size_append] at c50b3
                                      have H' := Aside0.mk H
                                      clear H
                                      try go_wp2
                                      have n0_ := Aside0.mk (blk_drew BK158.out)
                                      have n1_ := Aside0.mk (below_drew1 HB.out)
                                      clear BK158
                                      clear HB
                                      have BK158 := n0_
                                      have HB := n1_
                                      clear n0_ n1_
                                      refine start_ (n := 30) (S := fun w' => w'.cell? ⟨gb158, 0, none⟩ = some (.int .i64 a0_0) ∧ w'.cell? ⟨gb158, 1, none⟩ = some (.int .i64 a0_1) ∧ w'.cell? ⟨gb158, 2, none⟩ = some (.int .i64 a0_2) ∧ w'.cell? ⟨gb158, 3, none⟩ = some (.int .i64 a0_3) ∧ w'.cell? ⟨gb158, 4, none⟩ = some (.int .i64 a0_4) ∧ w'.cell? ⟨gb158, 5, none⟩ = some (.int .i64 a0_5) ∧ w'.cell? ⟨gb158, 6, none⟩ = some (.int .i64 a0_6) ∧ w'.cell? ⟨gb158, 7, none⟩ = some (.int .i64 a0_7) ∧ w'.cell? ⟨gb158, 8, none⟩ = some (.bool a0_8) ∧ w'.cell? ⟨gb158, 9, none⟩ = some (.slice A0_9 l0_9.length c0_9) ∧ w'.cell? ⟨gb158, 10, none⟩ = some (.slice A0_10 l0_10.length c0_10)) (ds := []) #[false, false, false, false, false, false, false, false, false, false, false, false, false, false, false, false, false, false, false, false, false, false, false, false, false, false, false, false, false, false] (by kernel_rfl) rfl rfl ⟨(blk_cell BK158.out 0).trans rfl, (blk_cell BK158.out 1).trans rfl, (blk_cell BK158.out 2).trans rfl, (blk_cell BK158.out 3).trans rfl, (blk_cell BK158.out 4).trans rfl, (blk_cell BK158.out 5).trans rfl, (blk_cell BK158.out 6).trans rfl, (blk_cell BK158.out 7).trans rfl, (blk_cell BK158.out 8).trans rfl, (blk_cell BK158.out 9).trans rfl, (blk_cell BK158.out 10).trans rfl⟩ (fun hHeld => ?_); refine with_tabW contraref11_Write.tab7 contraref11_Write.bits7 (fun HT_ HW_ => ?_)
                                      generalize wc.drew = w51 at BK158 HB hHeld ⊢
                                      refine pure_ (i := 0) (N := some 62) (v := ?_) (a' := ?_) #[true, false, false, false, false, false, false, false, false, false, false, false, false, false, false, false, false, false, false, false, false, false, false, false, false, false, false, false, false, false] rfl rfl (any_of HT_.out (by kernel_rfl)) (fun _ _ _ h => h) (Or.inl ⟨by rfl, ?_⟩) ?_ ?_
                                      rotate_left
                                      · intro w'
                                        go_simp
                                        with_reducible rfl
                                      rotate_left
                                      · simp only [Act.put, List.setIfInBounds_toArray, List.set_cons_zero, List.set_cons_succ, i64_w, i32_w]
                                        rfl
                                      refine pure_ (i := 3) (N := some 65) (v := ?_) (a' := ?_) #[true, false, false, true, false, false, false, false, false, false, false, false, false, false, false, false, false, false, false, false, false, false, false, false, false, false, false, false, false, false] rfl rfl (any_of HT_.out (by kernel_rfl)) (fun _ _ _ h => h) (Or.inl ⟨by rfl, ?_⟩) ?_ ?_
                                      rotate_left
                                      · intro w'
                                        go_simp
                                        with_reducible rfl
                                      rotate_left
                                      · simp only [Act.put, List.setIfInBounds_toArray, List.set_cons_zero, List.set_cons_succ, i64_w, i32_w]
                                        rfl
                                      refine pure_ (i := 4) (N := some 66) (v := ?_) (a' := ?_) #[true, false, false, true, true, false, false, false, false, false, false, false, false, false, false, false, false, false, false, false, false, false, false, false, false, false, false, false, false, false] rfl rfl (any_of HT_.out (by kernel_rfl)) (fun _ _ _ h => h) (Or.inl ⟨by rfl, ?_⟩) ?_ ?_
                                      rotate_left
                                      · intro w'
                                        go_simp
                                        with_reducible rfl
                                      rotate_left
                                      · simp only [Act.put, List.setIfInBounds_toArray, List.set_cons_zero, List.set_cons_succ, i64_w, i32_w]
                                        rfl
                                      refine pure_ (i := 8) (N := some 70) (v := ?_) (a' := ?_) #[true, false, false, true, true, false, false, false, true, false, false, false, false, false, false, false, false, false, false, false, false, false, false, false, false, false, false, false, false, false] rfl rfl (any_of HT_.out (by kernel_rfl)) (fun _ _ _ h => h) (Or.inl ⟨by rfl, ?_⟩) ?_ ?_
                                      rotate_left
                                      · intro w'
                                        go_simp
                                        with_reducible rfl
                                      rotate_left
                                      · simp only [Act.put, List.setIfInBounds_toArray, List.set_cons_zero, List.set_cons_succ, i64_w, i32_w]
                                        rfl
                                      refine pure_ (i := 9) (N := some 71) (v := ?_) (a' := ?_) #[true, false, false, true, true, false, false, false, true, true, false, false, false, false, false, false, false, false, false, false, false, false, false, false, false, false, false, false, false, false] rfl rfl (any_of HT_.out (by kernel_rfl)) (fun _ _ _ h => h) (Or.inl ⟨by rfl, ?_⟩) ?_ ?_
                                      rotate_left
                                      · intro w'
                                        go_simp
                                        with_reducible rfl
                                      rotate_left
                                      · simp only [Act.put, List.setIfInBounds_toArray, List.set_cons_zero, List.set_cons_succ, i64_w, i32_w]
                                        rfl
                                      refine pure_ (i := 13) (N := some 75) (v := ?_) (a' := ?_) #[true, false, false, true, true, false, false, false, true, true, false, false, false, true, false, false, false, false, false, false, false, false, false, false, false, false, false, false, false, false] rfl rfl (any_of HT_.out (by kernel_rfl)) (fun _ _ _ h => h) (Or.inl ⟨by rfl, ?_⟩) ?_ ?_
                                      rotate_left
                                      · intro w'
                                        go_simp
                                        with_reducible rfl
                                      rotate_left
                                      · simp only [Act.put, List.setIfInBounds_toArray, List.set_cons_zero, List.set_cons_succ, i64_w, i32_w]
                                        rfl
                                      refine pure_ (i := 17) (N := some 79) (v := ?_) (a' := ?_) #[true, false, false, true, true, false, false, false, true, true, false, false, false, true, false, false, false, true, false, false, false, false, false, false, false, false, false, false, false, false] rfl rfl (any_of HT_.out (by kernel_rfl)) (fun _ _ _ h => h) (Or.inl ⟨by rfl, ?_⟩) ?_ ?_
                                      rotate_left
                                      · intro w'
                                        go_simp
                                        with_reducible rfl
                                      rotate_left
                                      · simp only [Act.put, List.setIfInBounds_toArray, List.set_cons_zero, List.set_cons_succ, i64_w, i32_w]
                                        rfl
                                      refine pure_ (i := 21) (N := some 83) (v := ?_) (a' := ?_) #[true, false, false, true, true, false, false, false, true, true, false, false, false, true, false, false, false, true, false, false, false, true, false, false, false, false, false, false, false, false] rfl rfl (any_of HT_.out (by kernel_rfl)) (fun _ _ _ h => h) (Or.inl ⟨by rfl, ?_⟩) ?_ ?_
                                      rotate_left
                                      · intro w'
                                        go_simp
                                        with_reducible rfl
                                      rotate_left
                                      · simp only [Act.put, List.setIfInBounds_toArray, List.set_cons_zero, List.set_cons_succ, i64_w, i32_w]
                                        rfl
                                      refine pure_ (i := 25) (N := some 87) (v := ?_) (a' := ?_) #[true, false, false, true, true, false, false, false, true, true, false, false, false, true, false, false, false, true, false, false, false, true, false, false, false, true, false, false, false, false] rfl rfl (any_of HT_.out (by kernel_rfl)) (fun _ _ _ h => h) (Or.inl ⟨by rfl, ?_⟩) ?_ ?_
                                      rotate_left
                                      · intro w'
                                        go_simp
                                        with_reducible rfl
                                      rotate_left
                                      · simp only [Act.put, List.setIfInBounds_toArray, List.set_cons_zero, List.set_cons_succ, i64_w, i32_w]
                                        rfl
                                      refine take_ (i := 1) (N := some 63) (v := ?_) (a' := ?_) #[true, true, false, true, true, false, false, false, true, true, false, false, false, true, false, false, false, true, false, false, false, true, false, false, false, true, false, false, false, false] rfl rfl (take_ofW HT_.out HW_.out (by kernel_rfl)) (fun _ _ _ h => h) (Or.inl ⟨by rfl, ?_⟩) hHeld ?_ ?_
                                      rotate_left
                                      · rintro w' ⟨s0, s1, s2, s3, s4, s5, s6, s7, s8, s9, s10⟩
                                        go_simp
                                        with_reducible rfl
                                      rotate_left
                                      · simp only [Act.put, List.setIfInBounds_toArray, List.set_cons_zero, List.set_cons_succ, i64_w, i32_w]
                                        rfl
                                      refine take_ (i := 5) (N := some 67) (v := ?_) (a' := ?_) #[true, true, false, true, true, true, false, false, true, true, false, false, false, true, false, false, false, true, false, false, false, true, false, false, false, true, false, false, false, false] rfl rfl (take_ofW HT_.out HW_.out (by kernel_rfl)) (fun _ _ _ h => h) (Or.inl ⟨by rfl, ?_⟩) hHeld ?_ ?_
                                      rotate_left
                                      · rintro w' ⟨s0, s1, s2, s3, s4, s5, s6, s7, s8, s9, s10⟩
                                        go_simp
                                        with_reducible rfl
                                      rotate_left
                                      · simp only [Act.put, List.setIfInBounds_toArray, List.set_cons_zero, List.set_cons_succ, i64_w, i32_w]
                                        rfl
                                      refine take_ (i := 10) (N := some 72) (v := ?_) (a' := ?_) #[true, true, false, true, true, true, false, false, true, true, true, false, false, true, false, false, false, true, false, false, false, true, false, false, false, true, false, false, false, false] rfl rfl (take_ofW HT_.out HW_.out (by kernel_rfl)) (fun _ _ _ h => h) (Or.inl ⟨by rfl, ?_⟩) hHeld ?_ ?_
                                      rotate_left
                                      · rintro w' ⟨s0, s1, s2, s3, s4, s5, s6, s7, s8, s9, s10⟩
                                        go_simp
                                        with_reducible rfl
                                      rotate_left
                                      · simp only [Act.put, List.setIfInBounds_toArray, List.set_cons_zero, List.set_cons_succ, i64_w, i32_w]
                                        rfl
                                      refine take_ (i := 14) (N := some 76) (v := ?_) (a' := ?_) #[true, true, false, true, true, true, false, false, true, true, true, false, false, true, true, false, false, true, false, false, false, true, false, false, false, true, false, false, false, false] rfl rfl (take_ofW HT_.out HW_.out (by kernel_rfl)) (fun _ _ _ h => h) (Or.inl ⟨by rfl, ?_⟩) hHeld ?_ ?_
                                      rotate_left
                                      · rintro w' ⟨s0, s1, s2, s3, s4, s5, s6, s7, s8, s9, s10⟩
                                        go_simp
                                        with_reducible rfl
                                      rotate_left
                                      · simp only [Act.put, List.setIfInBounds_toArray, List.set_cons_zero, List.set_cons_succ, i64_w, i32_w]
                                        rfl
                                      refine take_ (i := 18) (N := some 80) (v := ?_) (a' := ?_) #[true, true, false, true, true, true, false, false, true, true, true, false, false, true, true, false, false, true, true, false, false, true, false, false, false, true, false, false, false, false] rfl rfl (take_ofW HT_.out HW_.out (by kernel_rfl)) (fun _ _ _ h => h) (Or.inl ⟨by rfl, ?_⟩) hHeld ?_ ?_
                                      rotate_left
                                      · rintro w' ⟨s0, s1, s2, s3, s4, s5, s6, s7, s8, s9, s10⟩
                                        go_simp
                                        with_reducible rfl
                                      rotate_left
                                      · simp only [Act.put, List.setIfInBounds_toArray, List.set_cons_zero, List.set_cons_succ, i64_w, i32_w]
                                        rfl
                                      refine take_ (i := 22) (N := some 84) (v := ?_) (a' := ?_) #[true, true, false, true, true, true, false, false, true, true, true, false, false, true, true, false, false, true, true, false, false, true, true, false, false, true, false, false, false, false] rfl rfl (take_ofW HT_.out HW_.out (by kernel_rfl)) (fun _ _ _ h => h) (Or.inl ⟨by rfl, ?_⟩) hHeld ?_ ?_
                                      rotate_left
                                      · rintro w' ⟨s0, s1, s2, s3, s4, s5, s6, s7, s8, s9, s10⟩
                                        go_simp
                                        with_reducible rfl
                                      rotate_left
                                      · simp only [Act.put, List.setIfInBounds_toArray, List.set_cons_zero, List.set_cons_succ, i64_w, i32_w]
                                        rfl
                                      refine take_ (i := 26) (N := some 88) (v := ?_) (a' := ?_) #[true, true, false, true, true, true, false, false, true, true, true, false, false, true, true, false, false, true, true, false, false, true, true, false, false, true, true, false, false, false] rfl rfl (take_ofW HT_.out HW_.out (by kernel_rfl)) (fun _ _ _ h => h) (Or.inl ⟨by rfl, ?_⟩) hHeld ?_ ?_
                                      rotate_left
                                      · rintro w' ⟨s0, s1, s2, s3, s4, s5, s6, s7, s8, s9, s10⟩
                                        go_simp
                                        with_reducible rfl
                                      rotate_left
                                      · simp only [Act.put, List.setIfInBounds_toArray, List.set_cons_zero, List.set_cons_succ, i64_w, i32_w]
                                        rfl
                                      refine one_ (i := 2) (N := some 64) #[true, true, true, true, true, true, false, false, true, true, true, false, false, true, true, false, false, true, true, false, false, true, true, false, false, true, true, false, false, false] rfl rfl (one_of HT_.out (by kernel_rfl)) (by decide) (fun K hK => ?_)
                                      refine goes_ Try.func27 (by kernel_rfl) rfl #[.int .i64 a0_0] (by rfl) rfl rfl (by (try simp only [List.map_toArray, List.map_cons, List.map_nil]); first | done | rfl | (simp only [List.length_drop, List.length_take]; rfl)) ?_
                                      with_reducible refine (contraref04_Num.calls kj12 a0_0 t165 _ A32.out).mono ?_
                                      rintro e w52 ⟨rfl, hb⟩
                                      refine ⟨_, rfl, ?_⟩
                                      have n0_ := Aside0.mk (blk_below (g := gb158) (o := .cells #[.int .i64 a0_0, .int .i64 a0_1, .int .i64 a0_2, .int .i64 a0_3, .int .i64 a0_4, .int .i64 a0_5, .int .i64 a0_6, .int .i64 a0_7, .bool a0_8, .slice A0_9 l0_9.length c0_9, .slice A0_10 l0_10.length c0_10] 28 (0, 0)) (by (with_reducible repeat (first | refine blk_drewN ?_ _ | refine blk_drew ?_ | refine blk_alloc ?_ _)); exact BK158.out) hb)
                                      have n1_ := Aside0.mk (below_step (by repeat (first | (with_reducible first | exact HB.out | apply below_alloc | apply pw_below_drewN | apply below_drew1 | refine below_set ?_ GE158.out) | exact HB.out)) hb)
                                      clear BK158
                                      clear HB
                                      have BK158 := n0_
                                      have HB := n1_
                                      clear n0_ n1_
                                      (try clear hb)
                                      (try clear hb2)
                                      (try clear hk)
                                      (try clear hi)
                                      refine hK.out _ _ ⟨(blk_cell BK158.out 0).trans rfl, (blk_cell BK158.out 1).trans rfl, (blk_cell BK158.out 2).trans rfl, (blk_cell BK158.out 3).trans rfl, (blk_cell BK158.out 4).trans rfl, (blk_cell BK158.out 5).trans rfl, (blk_cell BK158.out 6).trans rfl, (blk_cell BK158.out 7).trans rfl, (blk_cell BK158.out 8).trans rfl, (blk_cell BK158.out 9).trans rfl, (blk_cell BK158.out 10).trans rfl⟩ (fun hHeld => ?_)
                                      clear hK K
                                      refine norm_ (a' := ?_) ?_ ?_
                                      rotate_left
                                      · show Act.put _ (some 64) _ = _
                                        simp only [Act.put, List.setIfInBounds_toArray, List.set_cons_zero, List.set_cons_succ, i64_w, i32_w]
                                        rfl
                                      refine one_ (i := 6) (N := some 68) #[true, true, true, true, true, true, true, false, true, true, true, false, false, true, true, false, false, true, true, false, false, true, true, false, false, true, true, false, false, false] rfl rfl (one_of HT_.out (by kernel_rfl)) (by decide) (fun K hK => ?_)
                                      refine goes_ Try.func27 (by kernel_rfl) rfl #[.int .i64 a0_1] (by rfl) rfl rfl (by (try simp only [List.map_toArray, List.map_cons, List.map_nil]); first | done | rfl | (simp only [List.length_drop, List.length_take]; rfl)) ?_
                                      with_reducible refine (contraref04_Num.calls kj12 a0_1 t166 _ A33.out).mono ?_
                                      rintro e w53 ⟨rfl, hb⟩
                                      refine ⟨_, rfl, ?_⟩
                                      have n0_ := Aside0.mk (blk_below (g := gb158) (o := .cells #[.int .i64 a0_0, .int .i64 a0_1, .int .i64 a0_2, .int .i64 a0_3, .int .i64 a0_4, .int .i64 a0_5, .int .i64 a0_6, .int .i64 a0_7, .bool a0_8, .slice A0_9 l0_9.length c0_9, .slice A0_10 l0_10.length c0_10] 28 (0, 0)) (by (with_reducible repeat (first | refine blk_drewN ?_ _ | refine blk_drew ?_ | refine blk_alloc ?_ _)); exact BK158.out) hb)
                                      have n1_ := Aside0.mk (below_step (by repeat (first | (with_reducible first | exact HB.out | apply below_alloc | apply pw_below_drewN | apply below_drew1 | refine below_set ?_ GE158.out) | exact HB.out)) hb)
                                      clear BK158
                                      clear HB
                                      have BK158 := n0_
                                      have HB := n1_
                                      clear n0_ n1_
                                      (try clear hb)
                                      (try clear hb2)
                                      (try clear hk)
                                      (try clear hi)
                                      refine hK.out _ _ ⟨(blk_cell BK158.out 0).trans rfl, (blk_cell BK158.out 1).trans rfl, (blk_cell BK158.out 2).trans rfl, (blk_cell BK158.out 3).trans rfl, (blk_cell BK158.out 4).trans rfl, (blk_cell BK158.out 5).trans rfl, (blk_cell BK158.out 6).trans rfl, (blk_cell BK158.out 7).trans rfl, (blk_cell BK158.out 8).trans rfl, (blk_cell BK158.out 9).trans rfl, (blk_cell BK158.out 10).trans rfl⟩ (fun hHeld => ?_)
                                      clear hK K
                                      refine norm_ (a' := ?_) ?_ ?_
                                      rotate_left
                                      · show Act.put _ (some 68) _ = _
                                        simp only [Act.put, List.setIfInBounds_toArray, List.set_cons_zero, List.set_cons_succ, i64_w, i32_w]
                                        rfl
                                      refine pure_ (i := 7) (N := some 69) (v := ?_) (a' := ?_) #[true, true, true, true, true, true, true, true, true, true, true, false, false, true, true, false, false, true, true, false, false, true, true, false, false, true, true, false, false, false] rfl rfl (any_of HT_.out (by kernel_rfl)) (fun _ _ _ h => h) (Or.inl ⟨by rfl, ?_⟩) ?_ ?_
                                      rotate_left
                                      · intro w'
                                        go_simp
                                        with_reducible rfl
                                      rotate_left
                                      · simp only [Act.put, List.setIfInBounds_toArray, List.set_cons_zero, List.set_cons_succ, i64_w, i32_w]
                                        rfl
                                      refine one_ (i := 11) (N := some 73) #[true, true, true, true, true, true, true, true, true, true, true, true, false, true, true, false, false, true, true, false, false, true, true, false, false, true, true, false, false, false] rfl rfl (one_of HT_.out (by kernel_rfl)) (by decide) (fun K hK => ?_)
                                      refine goes_ Try.func27 (by kernel_rfl) rfl #[.int .i64 a0_2] (by rfl) rfl rfl (by (try simp only [List.map_toArray, List.map_cons, List.map_nil]); first | done | rfl | (simp only [List.length_drop, List.length_take]; rfl)) ?_
                                      with_reducible refine (contraref04_Num.calls kj12 a0_2 t167 _ A35.out).mono ?_
                                      rintro e w54 ⟨rfl, hb⟩
                                      refine ⟨_, rfl, ?_⟩
                                      have n0_ := Aside0.mk (blk_below (g := gb158) (o := .cells #[.int .i64 a0_0, .int .i64 a0_1, .int .i64 a0_2, .int .i64 a0_3, .int .i64 a0_4, .int .i64 a0_5, .int .i64 a0_6, .int .i64 a0_7, .bool a0_8, .slice A0_9 l0_9.length c0_9, .slice A0_10 l0_10.length c0_10] 28 (0, 0)) (by (with_reducible repeat (first | refine blk_drewN ?_ _ | refine blk_drew ?_ | refine blk_alloc ?_ _)); exact BK158.out) hb)
                                      have n1_ := Aside0.mk (below_step (by repeat (first | (with_reducible first | exact HB.out | apply below_alloc | apply pw_below_drewN | apply below_drew1 | refine below_set ?_ GE158.out) | exact HB.out)) hb)
                                      clear BK158
                                      clear HB
                                      have BK158 := n0_
                                      have HB := n1_
                                      clear n0_ n1_
                                      (try clear hb)
                                      (try clear hb2)
                                      (try clear hk)
                                      (try clear hi)
                                      refine hK.out _ _ ⟨(blk_cell BK158.out 0).trans rfl, (blk_cell BK158.out 1).trans rfl, (blk_cell BK158.out 2).trans rfl, (blk_cell BK158.out 3).trans rfl, (blk_cell BK158.out 4).trans rfl, (blk_cell BK158.out 5).trans rfl, (blk_cell BK158.out 6).trans rfl, (blk_cell BK158.out 7).trans rfl, (blk_cell BK158.out 8).trans rfl, (blk_cell BK158.out 9).trans rfl, (blk_cell BK158.out 10).trans rfl⟩ (fun hHeld => ?_)
                                      clear hK K
                                      refine norm_ (a' := ?_) ?_ ?_
                                      rotate_left
                                      · show Act.put _ (some 73) _ = _
                                        simp only [Act.put, List.setIfInBounds_toArray, List.set_cons_zero, List.set_cons_succ, i64_w, i32_w]
                                        rfl
                                      refine pure_ (i := 12) (N := some 74) (v := ?_) (a' := ?_) #[true, true, true, true, true, true, true, true, true, true, true, true, true, true, true, false, false, true, true, false, false, true, true, false, false, true, true, false, false, false] rfl rfl (any_of HT_.out (by kernel_rfl)) (fun _ _ _ h => h) (Or.inl ⟨by rfl, ?_⟩) ?_ ?_
                                      rotate_left
                                      · intro w'
                                        go_simp
                                        with_reducible rfl
                                      rotate_left
                                      · simp only [Act.put, List.setIfInBounds_toArray, List.set_cons_zero, List.set_cons_succ, i64_w, i32_w]
                                        rfl
                                      refine one_ (i := 15) (N := some 77) #[true, true, true, true, true, true, true, true, true, true, true, true, true, true, true, true, false, true, true, false, false, true, true, false, false, true, true, false, false, false] rfl rfl (one_of HT_.out (by kernel_rfl)) (by decide) (fun K hK => ?_)
                                      refine goes_ Try.func27 (by kernel_rfl) rfl #[.int .i64 a0_3] (by rfl) rfl rfl (by (try simp only [List.map_toArray, List.map_cons, List.map_nil]); first | done | rfl | (simp only [List.length_drop, List.length_take]; rfl)) ?_
                                      with_reducible refine (contraref04_Num.calls kj12 a0_3 t168 _ A37.out).mono ?_
                                      rintro e w55 ⟨rfl, hb⟩
                                      refine ⟨_, rfl, ?_⟩
                                      have n0_ := Aside0.mk (blk_below (g := gb158) (o := .cells #[.int .i64 a0_0, .int .i64 a0_1, .int .i64 a0_2, .int .i64 a0_3, .int .i64 a0_4, .int .i64 a0_5, .int .i64 a0_6, .int .i64 a0_7, .bool a0_8, .slice A0_9 l0_9.length c0_9, .slice A0_10 l0_10.length c0_10] 28 (0, 0)) (by (with_reducible repeat (first | refine blk_drewN ?_ _ | refine blk_drew ?_ | refine blk_alloc ?_ _)); exact BK158.out) hb)
                                      have n1_ := Aside0.mk (below_step (by repeat (first | (with_reducible first | exact HB.out | apply below_alloc | apply pw_below_drewN | apply below_drew1 | refine below_set ?_ GE158.out) | exact HB.out)) hb)
                                      clear BK158
                                      clear HB
                                      have BK158 := n0_
                                      have HB := n1_
                                      clear n0_ n1_
                                      (try clear hb)
                                      (try clear hb2)
                                      (try clear hk)
                                      (try clear hi)
                                      refine hK.out _ _ ⟨(blk_cell BK158.out 0).trans rfl, (blk_cell BK158.out 1).trans rfl, (blk_cell BK158.out 2).trans rfl, (blk_cell BK158.out 3).trans rfl, (blk_cell BK158.out 4).trans rfl, (blk_cell BK158.out 5).trans rfl, (blk_cell BK158.out 6).trans rfl, (blk_cell BK158.out 7).trans rfl, (blk_cell BK158.out 8).trans rfl, (blk_cell BK158.out 9).trans rfl, (blk_cell BK158.out 10).trans rfl⟩ (fun hHeld => ?_)
                                      clear hK K
                                      refine norm_ (a' := ?_) ?_ ?_
                                      rotate_left
                                      · show Act.put _ (some 77) _ = _
                                        simp only [Act.put, List.setIfInBounds_toArray, List.set_cons_zero, List.set_cons_succ, i64_w, i32_w]
                                        rfl
                                      refine pure_ (i := 16) (N := some 78) (v := ?_) (a' := ?_) #[true, true, true, true, true, true, true, true, true, true, true, true, true, true, true, true, true, true, true, false, false, true, true, false, false, true, true, false, false, false] rfl rfl (any_of HT_.out (by kernel_rfl)) (fun _ _ _ h => h) (Or.inl ⟨by rfl, ?_⟩) ?_ ?_
                                      rotate_left
                                      · intro w'
                                        go_simp
                                        with_reducible rfl
                                      rotate_left
                                      · simp only [Act.put, List.setIfInBounds_toArray, List.set_cons_zero, List.set_cons_succ, i64_w, i32_w]
                                        rfl
                                      refine one_ (i := 19) (N := some 81) #[true, true, true, true, true, true, true, true, true, true, true, true, true, true, true, true, true, true, true, true, false, true, true, false, false, true, true, false, false, false] rfl rfl (one_of HT_.out (by kernel_rfl)) (by decide) (fun K hK => ?_)
                                      refine goes_ Try.func27 (by kernel_rfl) rfl #[.int .i64 a0_4] (by rfl) rfl rfl (by (try simp only [List.map_toArray, List.map_cons, List.map_nil]); first | done | rfl | (simp only [List.length_drop, List.length_take]; rfl)) ?_
                                      with_reducible refine (contraref04_Num.calls kj12 a0_4 t169 _ A39.out).mono ?_
                                      rintro e w56 ⟨rfl, hb⟩
                                      refine ⟨_, rfl, ?_⟩
                                      have n0_ := Aside0.mk (blk_below (g := gb158) (o := .cells #[.int .i64 a0_0, .int .i64 a0_1, .int .i64 a0_2, .int .i64 a0_3, .int .i64 a0_4, .int .i64 a0_5, .int .i64 a0_6, .int .i64 a0_7, .bool a0_8, .slice A0_9 l0_9.length c0_9, .slice A0_10 l0_10.length c0_10] 28 (0, 0)) (by (with_reducible repeat (first | refine blk_drewN ?_ _ | refine blk_drew ?_ | refine blk_alloc ?_ _)); exact BK158.out) hb)
                                      have n1_ := Aside0.mk (below_step (by repeat (first | (with_reducible first | exact HB.out | apply below_alloc | apply pw_below_drewN | apply below_drew1 | refine below_set ?_ GE158.out) | exact HB.out)) hb)
                                      clear BK158
                                      clear HB
                                      have BK158 := n0_
                                      have HB := n1_
                                      clear n0_ n1_
                                      (try clear hb)
                                      (try clear hb2)
                                      (try clear hk)
                                      (try clear hi)
                                      refine hK.out _ _ ⟨(blk_cell BK158.out 0).trans rfl, (blk_cell BK158.out 1).trans rfl, (blk_cell BK158.out 2).trans rfl, (blk_cell BK158.out 3).trans rfl, (blk_cell BK158.out 4).trans rfl, (blk_cell BK158.out 5).trans rfl, (blk_cell BK158.out 6).trans rfl, (blk_cell BK158.out 7).trans rfl, (blk_cell BK158.out 8).trans rfl, (blk_cell BK158.out 9).trans rfl, (blk_cell BK158.out 10).trans rfl⟩ (fun hHeld => ?_)
                                      clear hK K
                                      refine norm_ (a' := ?_) ?_ ?_
                                      rotate_left
                                      · show Act.put _ (some 81) _ = _
                                        simp only [Act.put, List.setIfInBounds_toArray, List.set_cons_zero, List.set_cons_succ, i64_w, i32_w]
                                        rfl
                                      refine pure_ (i := 20) (N := some 82) (v := ?_) (a' := ?_) #[true, true, true, true, true, true, true, true, true, true, true, true, true, true, true, true, true, true, true, true, true, true, true, false, false, true, true, false, false, false] rfl rfl (any_of HT_.out (by kernel_rfl)) (fun _ _ _ h => h) (Or.inl ⟨by rfl, ?_⟩) ?_ ?_
                                      rotate_left
                                      · intro w'
                                        go_simp
                                        with_reducible rfl
                                      rotate_left
                                      · simp only [Act.put, List.setIfInBounds_toArray, List.set_cons_zero, List.set_cons_succ, i64_w, i32_w]
                                        rfl
                                      refine one_ (i := 23) (N := some 85) #[true, true, true, true, true, true, true, true, true, true, true, true, true, true, true, true, true, true, true, true, true, true, true, true, false, true, true, false, false, false] rfl rfl (one_of HT_.out (by kernel_rfl)) (by decide) (fun K hK => ?_)
                                      refine goes_ Try.func27 (by kernel_rfl) rfl #[.int .i64 a0_5] (by rfl) rfl rfl (by (try simp only [List.map_toArray, List.map_cons, List.map_nil]); first | done | rfl | (simp only [List.length_drop, List.length_take]; rfl)) ?_
                                      with_reducible refine (contraref04_Num.calls kj12 a0_5 t170 _ A41.out).mono ?_
                                      rintro e w57 ⟨rfl, hb⟩
                                      refine ⟨_, rfl, ?_⟩
                                      have n0_ := Aside0.mk (blk_below (g := gb158) (o := .cells #[.int .i64 a0_0, .int .i64 a0_1, .int .i64 a0_2, .int .i64 a0_3, .int .i64 a0_4, .int .i64 a0_5, .int .i64 a0_6, .int .i64 a0_7, .bool a0_8, .slice A0_9 l0_9.length c0_9, .slice A0_10 l0_10.length c0_10] 28 (0, 0)) (by (with_reducible repeat (first | refine blk_drewN ?_ _ | refine blk_drew ?_ | refine blk_alloc ?_ _)); exact BK158.out) hb)
                                      have n1_ := Aside0.mk (below_step (by repeat (first | (with_reducible first | exact HB.out | apply below_alloc | apply pw_below_drewN | apply below_drew1 | refine below_set ?_ GE158.out) | exact HB.out)) hb)
                                      clear BK158
                                      clear HB
                                      have BK158 := n0_
                                      have HB := n1_
                                      clear n0_ n1_
                                      (try clear hb)
                                      (try clear hb2)
                                      (try clear hk)
                                      (try clear hi)
                                      refine hK.out _ _ ⟨(blk_cell BK158.out 0).trans rfl, (blk_cell BK158.out 1).trans rfl, (blk_cell BK158.out 2).trans rfl, (blk_cell BK158.out 3).trans rfl, (blk_cell BK158.out 4).trans rfl, (blk_cell BK158.out 5).trans rfl, (blk_cell BK158.out 6).trans rfl, (blk_cell BK158.out 7).trans rfl, (blk_cell BK158.out 8).trans rfl, (blk_cell BK158.out 9).trans rfl, (blk_cell BK158.out 10).trans rfl⟩ (fun hHeld => ?_)
                                      clear hK K
                                      refine norm_ (a' := ?_) ?_ ?_
                                      rotate_left
                                      · show Act.put _ (some 85) _ = _
                                        simp only [Act.put, List.setIfInBounds_toArray, List.set_cons_zero, List.set_cons_succ, i64_w, i32_w]
                                        rfl
                                      refine pure_ (i := 24) (N := some 86) (v := ?_) (a' := ?_) #[true, true, true, true, true, true, true, true, true, true, true, true, true, true, true, true, true, true, true, true, true, true, true, true, true, true, true, false, false, false] rfl rfl (any_of HT_.out (by kernel_rfl)) (fun _ _ _ h => h) (Or.inl ⟨by rfl, ?_⟩) ?_ ?_
                                      rotate_left
                                      · intro w'
                                        go_simp
                                        with_reducible rfl
                                      rotate_left
                                      · simp only [Act.put, List.setIfInBounds_toArray, List.set_cons_zero, List.set_cons_succ, i64_w, i32_w]
                                        rfl
                                      refine one_ (i := 27) (N := some 89) #[true, true, true, true, true, true, true, true, true, true, true, true, true, true, true, true, true, true, true, true, true, true, true, true, true, true, true, true, false, false] rfl rfl (one_of HT_.out (by kernel_rfl)) (by decide) (fun K hK => ?_)
                                      refine goes_ Try.func27 (by kernel_rfl) rfl #[.int .i64 a0_6] (by rfl) rfl rfl (by (try simp only [List.map_toArray, List.map_cons, List.map_nil]); first | done | rfl | (simp only [List.length_drop, List.length_take]; rfl)) ?_
                                      with_reducible refine (contraref04_Num.calls kj12 a0_6 t171 _ A43.out).mono ?_
                                      rintro e w58 ⟨rfl, hb⟩
                                      refine ⟨_, rfl, ?_⟩
                                      have n0_ := Aside0.mk (blk_below (g := gb158) (o := .cells #[.int .i64 a0_0, .int .i64 a0_1, .int .i64 a0_2, .int .i64 a0_3, .int .i64 a0_4, .int .i64 a0_5, .int .i64 a0_6, .int .i64 a0_7, .bool a0_8, .slice A0_9 l0_9.length c0_9, .slice A0_10 l0_10.length c0_10] 28 (0, 0)) (by (with_reducible repeat (first | refine blk_drewN ?_ _ | refine blk_drew ?_ | refine blk_alloc ?_ _)); exact BK158.out) hb)
                                      have n1_ := Aside0.mk (below_step (by repeat (first | (with_reducible first | exact HB.out | apply below_alloc | apply pw_below_drewN | apply below_drew1 | refine below_set ?_ GE158.out) | exact HB.out)) hb)
                                      clear BK158
                                      clear HB
                                      have BK158 := n0_
                                      have HB := n1_
                                      clear n0_ n1_
                                      (try clear hb)
                                      (try clear hb2)
                                      (try clear hk)
                                      (try clear hi)
                                      refine hK.out _ _ ⟨(blk_cell BK158.out 0).trans rfl, (blk_cell BK158.out 1).trans rfl, (blk_cell BK158.out 2).trans rfl, (blk_cell BK158.out 3).trans rfl, (blk_cell BK158.out 4).trans rfl, (blk_cell BK158.out 5).trans rfl, (blk_cell BK158.out 6).trans rfl, (blk_cell BK158.out 7).trans rfl, (blk_cell BK158.out 8).trans rfl, (blk_cell BK158.out 9).trans rfl, (blk_cell BK158.out 10).trans rfl⟩ (fun hHeld => ?_)
                                      clear hK K
                                      refine norm_ (a' := ?_) ?_ ?_
                                      rotate_left
                                      · show Act.put _ (some 89) _ = _
                                        simp only [Act.put, List.setIfInBounds_toArray, List.set_cons_zero, List.set_cons_succ, i64_w, i32_w]
                                        rfl
                                      refine pure_ (i := 28) (N := some 90) (v := ?_) (a' := ?_) #[true, true, true, true, true, true, true, true, true, true, true, true, true, true, true, true, true, true, true, true, true, true, true, true, true, true, true, true, true, false] rfl rfl (any_of HT_.out (by kernel_rfl)) (fun _ _ _ h => h) (Or.inl ⟨by rfl, ?_⟩) ?_ ?_
                                      rotate_left
                                      · intro w'
                                        go_simp
                                        with_reducible rfl
                                      rotate_left
                                      · simp only [Act.put, List.setIfInBounds_toArray, List.set_cons_zero, List.set_cons_succ, i64_w, i32_w]
                                        rfl
                                      refine pure_ (i := 29) (N := some 4) (v := ?_) (a' := ?_) #[true, true, true, true, true, true, true, true, true, true, true, true, true, true, true, true, true, true, true, true, true, true, true, true, true, true, true, true, true, true] rfl rfl (any_of HT_.out (by kernel_rfl)) (fun _ _ _ h => h) (Or.inl ⟨by rfl, ?_⟩) ?_ ?_
                                      rotate_left
                                      · intro w'
                                        go_simp
                                        with_reducible rfl
                                      rotate_left
                                      · simp only [Act.put, List.setIfInBounds_toArray, List.set_cons_zero, List.set_cons_succ, i64_w, i32_w]
                                        rfl
                                      refine done_ (done_of HT_.out (by kernel_rfl)) ?_
                                      try go_wp2
                                      have n0_ := Aside0.mk (blk_drew BK158.out)
                                      have n1_ := Aside0.mk (below_drew1 HB.out)
                                      clear BK158
                                      clear HB
                                      have BK158 := n0_
                                      have HB := n1_
                                      clear n0_ n1_
                                      refine start_ (n := 15) (S := fun w' => w'.cell? ⟨gb158, 0, none⟩ = some (.int .i64 a0_0) ∧ w'.cell? ⟨gb158, 1, none⟩ = some (.int .i64 a0_1) ∧ w'.cell? ⟨gb158, 2, none⟩ = some (.int .i64 a0_2) ∧ w'.cell? ⟨gb158, 3, none⟩ = some (.int .i64 a0_3) ∧ w'.cell? ⟨gb158, 4, none⟩ = some (.int .i64 a0_4) ∧ w'.cell? ⟨gb158, 5, none⟩ = some (.int .i64 a0_5) ∧ w'.cell? ⟨gb158, 6, none⟩ = some (.int .i64 a0_6) ∧ w'.cell? ⟨gb158, 7, none⟩ = some (.int .i64 a0_7) ∧ w'.cell? ⟨gb158, 8, none⟩ = some (.bool a0_8) ∧ w'.cell? ⟨gb158, 9, none⟩ = some (.slice A0_9 l0_9.length c0_9) ∧ w'.cell? ⟨gb158, 10, none⟩ = some (.slice A0_10 l0_10.length c0_10)) (ds := []) #[false, false, false, false, false, false, false, false, false, false, false, false, false, false, false] (by kernel_rfl) rfl rfl ⟨(blk_cell BK158.out 0).trans rfl, (blk_cell BK158.out 1).trans rfl, (blk_cell BK158.out 2).trans rfl, (blk_cell BK158.out 3).trans rfl, (blk_cell BK158.out 4).trans rfl, (blk_cell BK158.out 5).trans rfl, (blk_cell BK158.out 6).trans rfl, (blk_cell BK158.out 7).trans rfl, (blk_cell BK158.out 8).trans rfl, (blk_cell BK158.out 9).trans rfl, (blk_cell BK158.out 10).trans rfl⟩ (fun hHeld => ?_); refine with_tabW contraref11_Write.tab8 contraref11_Write.bits8 (fun HT_ HW_ => ?_)
                                      generalize w58.drew = w59 at BK158 HB hHeld ⊢
                                      refine pure_ (i := 0) (N := some 91) (v := ?_) (a' := ?_) #[true, false, false, false, false, false, false, false, false, false, false, false, false, false, false] rfl rfl (any_of HT_.out (by kernel_rfl)) (fun _ _ _ h => h) (Or.inl ⟨by rfl, ?_⟩) ?_ ?_
                                      rotate_left
                                      · intro w'
                                        go_simp
                                        with_reducible rfl
                                      rotate_left
                                      · simp only [Act.put, List.setIfInBounds_toArray, List.set_cons_zero, List.set_cons_succ, i64_w, i32_w]
                                        rfl
                                      refine pure_ (i := 1) (N := some 92) (v := ?_) (a' := ?_) #[true, true, false, false, false, false, false, false, false, false, false, false, false, false, false] rfl rfl (any_of HT_.out (by kernel_rfl)) (fun _ _ _ h => h) (Or.inl ⟨by rfl, ?_⟩) ?_ ?_
                                      rotate_left
                                      · intro w'
                                        go_simp
                                        with_reducible rfl
                                      rotate_left
                                      · simp only [Act.put, List.setIfInBounds_toArray, List.set_cons_zero, List.set_cons_succ, i64_w, i32_w]
                                        rfl
                                      refine pure_ (i := 4) (N := some 95) (v := ?_) (a' := ?_) #[true, true, false, false, true, false, false, false, false, false, false, false, false, false, false] rfl rfl (any_of HT_.out (by kernel_rfl)) (fun _ _ _ h => h) (Or.inl ⟨by rfl, ?_⟩) ?_ ?_
                                      rotate_left
                                      · intro w'
                                        go_simp
                                        with_reducible rfl
                                      rotate_left
                                      · simp only [Act.put, List.setIfInBounds_toArray, List.set_cons_zero, List.set_cons_succ, i64_w, i32_w]
                                        rfl
                                      refine pure_ (i := 8) (N := some 99) (v := ?_) (a' := ?_) #[true, true, false, false, true, false, false, false, true, false, false, false, false, false, false] rfl rfl (any_of HT_.out (by kernel_rfl)) (fun _ _ _ h => h) (Or.inl ⟨by rfl, ?_⟩) ?_ ?_
                                      rotate_left
                                      · intro w'
                                        go_simp
                                        with_reducible rfl
                                      rotate_left
                                      · simp only [Act.put, List.setIfInBounds_toArray, List.set_cons_zero, List.set_cons_succ, i64_w, i32_w]
                                        rfl
                                      refine take_ (i := 2) (N := some 93) (v := ?_) (a' := ?_) #[true, true, true, false, true, false, false, false, true, false, false, false, false, false, false] rfl rfl (take_ofW HT_.out HW_.out (by kernel_rfl)) (fun _ _ _ h => h) (Or.inl ⟨by rfl, ?_⟩) hHeld ?_ ?_
                                      rotate_left
                                      · rintro w' ⟨s0, s1, s2, s3, s4, s5, s6, s7, s8, s9, s10⟩
                                        go_simp
                                        with_reducible rfl
                                      rotate_left
                                      · simp only [Act.put, List.setIfInBounds_toArray, List.set_cons_zero, List.set_cons_succ, i64_w, i32_w]
                                        rfl
                                      refine take_ (i := 5) (N := some 96) (v := ?_) (a' := ?_) #[true, true, true, false, true, true, false, false, true, false, false, false, false, false, false] rfl rfl (take_ofW HT_.out HW_.out (by kernel_rfl)) (fun _ _ _ h => h) (Or.inl ⟨by rfl, ?_⟩) hHeld ?_ ?_
                                      rotate_left
                                      · rintro w' ⟨s0, s1, s2, s3, s4, s5, s6, s7, s8, s9, s10⟩
                                        go_simp
                                        with_reducible rfl
                                      rotate_left
                                      · simp only [Act.put, List.setIfInBounds_toArray, List.set_cons_zero, List.set_cons_succ, i64_w, i32_w]
                                        rfl
                                      refine take_ (i := 9) (N := some 100) (v := ?_) (a' := ?_) #[true, true, true, false, true, true, false, false, true, true, false, false, false, false, false] rfl rfl (take_ofW HT_.out HW_.out (by kernel_rfl)) (fun _ _ _ h => h) (Or.inl ⟨by rfl, ?_⟩) hHeld ?_ ?_
                                      rotate_left
                                      · rintro w' ⟨s0, s1, s2, s3, s4, s5, s6, s7, s8, s9, s10⟩
                                        go_simp
                                        with_reducible rfl
                                      rotate_left
                                      · simp only [Act.put, List.setIfInBounds_toArray, List.set_cons_zero, List.set_cons_succ, i64_w, i32_w]
                                        rfl
                                      refine pure_ (i := 10) (N := some 101) (v := ?_) (a' := ?_) #[true, true, true, false, true, true, false, false, true, true, true, false, false, false, false] rfl rfl (any_of HT_.out (by kernel_rfl)) (fun _ _ _ h => h) (Or.inl ⟨by rfl, ?_⟩) ?_ ?_
                                      rotate_left
                                      · intro w'
                                        go_simp
                                        with_reducible rfl
                                      rotate_left
                                      · simp only [Act.put, List.setIfInBounds_toArray, List.set_cons_zero, List.set_cons_succ, i64_w, i32_w]
                                        rfl
                                      refine one_ (i := 3) (N := some 94) #[true, true, true, true, true, true, false, false, true, true, true, false, false, false, false] rfl rfl (one_of HT_.out (by kernel_rfl)) (by decide) (fun K hK => ?_)
                                      refine goes_ Try.func27 (by kernel_rfl) rfl #[.int .i64 a0_7] (by rfl) rfl rfl (by (try simp only [List.map_toArray, List.map_cons, List.map_nil]); first | done | rfl | (simp only [List.length_drop, List.length_take]; rfl)) ?_
                                      with_reducible refine (contraref04_Num.calls kj12 a0_7 t172 _ A45.out).mono ?_
                                      rintro e w60 ⟨rfl, hb⟩
                                      refine ⟨_, rfl, ?_⟩
                                      have n0_ := Aside0.mk (blk_below (g := gb158) (o := .cells #[.int .i64 a0_0, .int .i64 a0_1, .int .i64 a0_2, .int .i64 a0_3, .int .i64 a0_4, .int .i64 a0_5, .int .i64 a0_6, .int .i64 a0_7, .bool a0_8, .slice A0_9 l0_9.length c0_9, .slice A0_10 l0_10.length c0_10] 28 (0, 0)) (by (with_reducible repeat (first | refine blk_drewN ?_ _ | refine blk_drew ?_ | refine blk_alloc ?_ _)); exact BK158.out) hb)
                                      have n1_ := Aside0.mk (below_step (by repeat (first | (with_reducible first | exact HB.out | apply below_alloc | apply pw_below_drewN | apply below_drew1 | refine below_set ?_ GE158.out) | exact HB.out)) hb)
                                      clear BK158
                                      clear HB
                                      have BK158 := n0_
                                      have HB := n1_
                                      clear n0_ n1_
                                      (try clear hb)
                                      (try clear hb2)
                                      (try clear hk)
                                      (try clear hi)
                                      refine hK.out _ _ ⟨(blk_cell BK158.out 0).trans rfl, (blk_cell BK158.out 1).trans rfl, (blk_cell BK158.out 2).trans rfl, (blk_cell BK158.out 3).trans rfl, (blk_cell BK158.out 4).trans rfl, (blk_cell BK158.out 5).trans rfl, (blk_cell BK158.out 6).trans rfl, (blk_cell BK158.out 7).trans rfl, (blk_cell BK158.out 8).trans rfl, (blk_cell BK158.out 9).trans rfl, (blk_cell BK158.out 10).trans rfl⟩ (fun hHeld => ?_)
                                      clear hK K
                                      refine norm_ (a' := ?_) ?_ ?_
                                      rotate_left
                                      · show Act.put _ (some 94) _ = _
                                        simp only [Act.put, List.setIfInBounds_toArray, List.set_cons_zero, List.set_cons_succ, i64_w, i32_w]
                                        rfl
                                      refine one_ (i := 6) (N := some 97) #[true, true, true, true, true, true, true, false, true, true, true, false, false, false, false] rfl rfl (one_of HT_.out (by kernel_rfl)) (by decide) (fun K hK => ?_)
                                      refine goes_ Try.func28 (by kernel_rfl) rfl #[.bool a0_8] (by rfl) rfl rfl (by (try simp only [List.map_toArray, List.map_cons, List.map_nil]); first | done | rfl | (simp only [List.length_drop, List.length_take]; rfl)) ?_
                                      with_reducible refine (contraref04_Bool.calls a0_8 t173 _ A46.out).mono ?_
                                      rintro e w' ⟨rfl, ⟨nd, rfl⟩⟩
                                      refine ⟨_, rfl, ?_⟩
                                      refine hK.out _ _ ⟨(blk_cell BK158.out 0).trans rfl, (blk_cell BK158.out 1).trans rfl, (blk_cell BK158.out 2).trans rfl, (blk_cell BK158.out 3).trans rfl, (blk_cell BK158.out 4).trans rfl, (blk_cell BK158.out 5).trans rfl, (blk_cell BK158.out 6).trans rfl, (blk_cell BK158.out 7).trans rfl, (blk_cell BK158.out 8).trans rfl, (blk_cell BK158.out 9).trans rfl, (blk_cell BK158.out 10).trans rfl⟩ (fun hHeld => ?_)
                                      clear hK K
                                      refine norm_ (a' := ?_) ?_ ?_
                                      rotate_left
                                      · show Act.put _ (some 97) _ = _
                                        simp only [Act.put, List.setIfInBounds_toArray, List.set_cons_zero, List.set_cons_succ, i64_w, i32_w]
                                        rfl
                                      refine pure_ (i := 7) (N := some 98) (v := ?_) (a' := ?_) #[true, true, true, true, true, true, true, true, true, true, true, false, false, false, false] rfl rfl (any_of HT_.out (by kernel_rfl)) (fun _ _ _ h => h) (Or.inl ⟨by rfl, ?_⟩) ?_ ?_
                                      rotate_left
                                      · intro w'
                                        go_simp
                                        with_reducible rfl
                                      rotate_left
                                      · simp only [Act.put, List.setIfInBounds_toArray, List.set_cons_zero, List.set_cons_succ, i64_w, i32_w]
                                        rfl
                                      refine one_ (i := 11) (N := some 102) #[true, true, true, true, true, true, true, true, true, true, true, true, false, false, false] rfl rfl (one_of HT_.out (by kernel_rfl)) (by decide) (fun K hK => ?_)
                                      refine goes_ Try.func27 (by kernel_rfl) rfl #[.int .i64 (l0_9.length : Int)] (by rfl) rfl rfl (by (try simp only [List.map_toArray, List.map_cons, List.map_nil]); first | done | rfl | (simp only [List.length_drop, List.length_take]; rfl)) ?_
                                      with_reducible refine (contraref04_Num.calls kj12 (l0_9.length : Int) t174 _ A48.out).mono ?_
                                      rintro e w61 ⟨rfl, hb⟩
                                      refine ⟨_, rfl, ?_⟩
                                      have n0_ := Aside0.mk (blk_below (g := gb158) (o := .cells #[.int .i64 a0_0, .int .i64 a0_1, .int .i64 a0_2, .int .i64 a0_3, .int .i64 a0_4, .int .i64 a0_5, .int .i64 a0_6, .int .i64 a0_7, .bool a0_8, .slice A0_9 l0_9.length c0_9, .slice A0_10 l0_10.length c0_10] 28 (0, 0)) (by (with_reducible repeat (first | refine blk_drewN ?_ _ | refine blk_drew ?_ | refine blk_alloc ?_ _)); exact BK158.out) hb)
                                      have n1_ := Aside0.mk (below_step (by repeat (first | (with_reducible first | exact HB.out | apply below_alloc | apply pw_below_drewN | apply below_drew1 | refine below_set ?_ GE158.out) | exact HB.out)) hb)
                                      clear BK158
                                      clear HB
                                      have BK158 := n0_
                                      have HB := n1_
                                      clear n0_ n1_
                                      (try clear hb)
                                      (try clear hb2)
                                      (try clear hk)
                                      (try clear hi)
                                      refine hK.out _ _ ⟨(blk_cell BK158.out 0).trans rfl, (blk_cell BK158.out 1).trans rfl, (blk_cell BK158.out 2).trans rfl, (blk_cell BK158.out 3).trans rfl, (blk_cell BK158.out 4).trans rfl, (blk_cell BK158.out 5).trans rfl, (blk_cell BK158.out 6).trans rfl, (blk_cell BK158.out 7).trans rfl, (blk_cell BK158.out 8).trans rfl, (blk_cell BK158.out 9).trans rfl, (blk_cell BK158.out 10).trans rfl⟩ (fun hHeld => ?_)
                                      clear hK K
                                      refine norm_ (a' := ?_) ?_ ?_
                                      rotate_left
                                      · show Act.put _ (some 102) _ = _
                                        simp only [Act.put, List.setIfInBounds_toArray, List.set_cons_zero, List.set_cons_succ, i64_w, i32_w]
                                        rfl
                                      refine pure_ (i := 12) (N := some 103) (v := ?_) (a' := ?_) #[true, true, true, true, true, true, true, true, true, true, true, true, true, false, false] rfl rfl (any_of HT_.out (by kernel_rfl)) (fun _ _ _ h => h) (Or.inl ⟨by rfl, ?_⟩) ?_ ?_
                                      rotate_left
                                      · intro w'
                                        go_simp
                                        with_reducible rfl
                                      rotate_left
                                      · simp only [Act.put, List.setIfInBounds_toArray, List.set_cons_zero, List.set_cons_succ, i64_w, i32_w]
                                        rfl
                                      refine pure_ (i := 13) (N := some 104) (v := ?_) (a' := ?_) #[true, true, true, true, true, true, true, true, true, true, true, true, true, true, false] rfl rfl (any_of HT_.out (by kernel_rfl)) (fun _ _ _ h => h) (Or.inl ⟨by rfl, ?_⟩) ?_ ?_
                                      rotate_left
                                      · intro w'
                                        go_simp
                                        with_reducible rfl
                                      rotate_left
                                      · simp only [Act.put, List.setIfInBounds_toArray, List.set_cons_zero, List.set_cons_succ, i64_w, i32_w]
                                        rfl
                                      refine pure_ (i := 14) (N := some 4) (v := ?_) (a' := ?_) #[true, true, true, true, true, true, true, true, true, true, true, true, true, true, true] rfl rfl (any_of HT_.out (by kernel_rfl)) (fun _ _ _ h => h) (Or.inl ⟨by rfl, ?_⟩) ?_ ?_
                                      rotate_left
                                      · intro w'
                                        go_simp
                                        with_reducible rfl
                                      rotate_left
                                      · simp only [Act.put, List.setIfInBounds_toArray, List.set_cons_zero, List.set_cons_succ, i64_w, i32_w]
                                        rfl
                                      refine done_ (done_of HT_.out (by kernel_rfl)) ?_
                                      try go_wp2
                                      go_loopg [4, 5] kj12 (fun kq v4 v5 w' => ∃ (x4_4 : ByteArray) (x5_4 : Int), v4 = .string x4_4 ∧ v5 = .int .i64 x5_4 ∧ Aside0 (contraref11_Write.l0 kq x4_4 x5_4 a0_0 a0_1 a0_2 a0_3 a0_4 a0_5 a0_6 a0_7 a0_8 l0_9 l0_10 = some (r1, r2)) ∧ Aside0 (kq ≤ kj12) ∧ Aside0 (w'.heap[gb158]? = some (.cells #[.int .i64 a0_0, .int .i64 a0_1, .int .i64 a0_2, .int .i64 a0_3, .int .i64 a0_4, .int .i64 a0_5, .int .i64 a0_6, .int .i64 a0_7, .bool a0_8, (.slice A0_9 l0_9.length c0_9), (.slice A0_10 l0_10.length c0_10)] 28 (0, 0))) ∧ Aside0 (Below w.heap.size w w'))
                                      case atStart => exact ⟨(((((((t165 ++ t166) ++ t167) ++ t168) ++ t169) ++ t170) ++ t171) ++ ((t172 ++ t173) ++ t174)), (0), (by first | rfl | (simp; done) | (simp [*]; done)), (by first | rfl | (simp; done) | (simp [*]; done)), H', ⟨Nat.le_refl _⟩, ⟨by (with_reducible repeat (first | refine blk_drewN ?_ _ | refine blk_drew ?_ | refine blk_alloc ?_ _)); exact BK158.out⟩, ⟨by repeat (first | (with_reducible first | exact HB.out | apply below_alloc | apply pw_below_drewN | apply below_drew1 | refine below_set ?_ GE158.out) | exact HB.out)⟩⟩
                                      case round =>
                                        clear H'
                                        try clear c2
                                        try clear p2
                                        try clear c3
                                        try clear c4
                                        try clear c5
                                        try clear c27
                                        try clear c28
                                        try clear c36
                                        try clear c36b1
                                        try clear c36b2
                                        try clear c38
                                        try clear c38b0
                                        try clear c38b1
                                        try clear c38b2
                                        try clear c40
                                        try clear c40b0
                                        try clear c40b1
                                        try clear c40b2
                                        try clear c42
                                        try clear c42b0
                                        try clear c42b1
                                        try clear c42b2
                                        try clear c44
                                        try clear c44b0
                                        try clear c44b1
                                        try clear c44b2
                                        try clear c47
                                        try clear c47b0
                                        try clear c47b1
                                        try clear c47b2
                                        try clear c49
                                        try clear c49b0
                                        try clear c49b1
                                        try clear c49b2
                                        try clear c50
                                        try clear c50b0
                                        try clear c50b1
                                        try clear c50b2
                                        obtain ⟨x4_4, x5_4, rfl, rfl, HA, HK4, BK158, HB⟩ := hrel
                                        cases gk with
                                        | zero => exact absurd HA.out (by simp [contraref11_Write.l0])
                                        | succ k4 =>
                                          have H := HA.out
                                          clear HA
                                          simp only [contraref11_Write.l0] at H
                                          by_cases c62 : x5_4 < (l0_9.length : Int)
                                          · rw [if_pos c62] at H
                                            have c62b0 : decide (x5_4 < (l0_9.length : Int)) = true := decide_eq_true c62
                                            clear c62
                                            by_cases c63 : 0 ≤ x5_4
                                            · rw [if_pos c63] at H
                                              have c63b0 : decide (0 ≤ x5_4) = true := decide_eq_true c63
                                              clear c63
                                              have HC64 := Aside0.mk H
                                              clear H
                                              have hcz65_0 : wr.cell? ⟨gb158, 0, none⟩ = some (.int .i64 a0_0) := (blk_cell BK158.out 0).trans rfl
                                              have hcz65_1 : wr.cell? ⟨gb158, 1, none⟩ = some (.int .i64 a0_1) := (blk_cell BK158.out 1).trans rfl
                                              have hcz65_2 : wr.cell? ⟨gb158, 2, none⟩ = some (.int .i64 a0_2) := (blk_cell BK158.out 2).trans rfl
                                              have hcz65_3 : wr.cell? ⟨gb158, 3, none⟩ = some (.int .i64 a0_3) := (blk_cell BK158.out 3).trans rfl
                                              have hcz65_4 : wr.cell? ⟨gb158, 4, none⟩ = some (.int .i64 a0_4) := (blk_cell BK158.out 4).trans rfl
                                              have hcz65_5 : wr.cell? ⟨gb158, 5, none⟩ = some (.int .i64 a0_5) := (blk_cell BK158.out 5).trans rfl
                                              have hcz65_6 : wr.cell? ⟨gb158, 6, none⟩ = some (.int .i64 a0_6) := (blk_cell BK158.out 6).trans rfl
                                              have hcz65_7 : wr.cell? ⟨gb158, 7, none⟩ = some (.int .i64 a0_7) := (blk_cell BK158.out 7).trans rfl
                                              have hcz65_8 : wr.cell? ⟨gb158, 8, none⟩ = some (.bool a0_8) := (blk_cell BK158.out 8).trans rfl
                                              have hcz65_9 : wr.cell? ⟨gb158, 9, none⟩ = some (.slice A0_9 l0_9.length c0_9) := (blk_cell BK158.out 9).trans rfl
                                              have hcz65_10 : wr.cell? ⟨gb158, 10, none⟩ = some (.slice A0_10 l0_10.length c0_10) := (blk_cell BK158.out 10).trans rfl
                                              have hfz65_0 := blk_frozen BK158.out 0
                                              have hfz65_1 := blk_frozen BK158.out 1
                                              have hfz65_2 := blk_frozen BK158.out 2
                                              have hfz65_3 := blk_frozen BK158.out 3
                                              have hfz65_4 := blk_frozen BK158.out 4
                                              have hfz65_5 := blk_frozen BK158.out 5
                                              have hfz65_6 := blk_frozen BK158.out 6
                                              have hfz65_7 := blk_frozen BK158.out 7
                                              have hfz65_8 := blk_frozen BK158.out 8
                                              have hfz65_9 := blk_frozen BK158.out 9
                                              have hfz65_10 := blk_frozen BK158.out 10
                                              have p175 : 0 ≤ (x5_4 : Int) := of_decide_eq_true (by first | (with_reducible assumption) | assumption)
                                              have q175 : x5_4 < (l0_9.length : Int) := of_decide_eq_true (by first | (with_reducible assumption) | assumption)
                                              obtain ⟨ad175, e175, hx175_0, hx175_1, hx175_2, hx175_3⟩ := at_T50 HR0_9.out x5_4 p175 q175
                                              cases e175
                                              replace hx175_0 := (HB.out.cell (World.block_lt_of_cell? w _ hx175_0)).trans hx175_0
                                              replace hx175_1 := (HB.out.cell (World.block_lt_of_cell? w _ hx175_1)).trans hx175_1
                                              replace hx175_2 := (HB.out.cell (World.block_lt_of_cell? w _ hx175_2)).trans hx175_2
                                              replace hx175_3 := (HB.out.cell (World.block_lt_of_cell? w _ hx175_3)).trans hx175_3
                                              replace p175 := eq_true p175
                                              replace q175 := eq_true q175
                                              go_upto_region 13 with (first | ((with_reducible refine gate_dst (N := 6) rfl ?_); (try (refine gate_guard (by rfl) ?_; dsimp only)); refine box_event ?hg (N := 6) ?hd (cs := #[.int .i64 0, .int .i64 0, .int .i64 0, .int .i64 0]) (t := 50) ?hr ?_; (case hd => rfl); (case hg => rfl); (case hr => first | (go_simp; done) | (go_simp; rfl)); intro gb176 hg w66 hbox hb; have n0_ := Aside0.mk (blk_below (g := gb158) (o := .cells #[.int .i64 a0_0, .int .i64 a0_1, .int .i64 a0_2, .int .i64 a0_3, .int .i64 a0_4, .int .i64 a0_5, .int .i64 a0_6, .int .i64 a0_7, .bool a0_8, .slice (some ad175) l0_9.length c0_9, .slice A0_10 l0_10.length c0_10] 28 (0, 0)) (by (with_reducible repeat (first | refine blk_drewN ?_ _ | refine blk_drew ?_ | refine blk_alloc ?_ _)); exact BK158.out) hb); have n1_ := Aside0.mk (below_step (by repeat (first | (with_reducible first | exact HB.out | apply below_alloc | apply pw_below_drewN | apply below_drew1 | refine below_set ?_ GE158.out) | exact HB.out)) hb); have n2_ := Aside0.mk (hbox); have n3_ := Aside0.mk ((by rw [hg]; exact (below_size (by repeat (first | (with_reducible first | exact HB.out | apply below_alloc | apply pw_below_drewN | apply below_drew1 | refine below_set ?_ GE158.out) | exact HB.out))) : w.heap.size ≤ gb176)); have n4_ := Aside0.mk ((by rw [hg]; exact (below_size (by repeat (first | (with_reducible first | exact HB.out | apply below_alloc | apply pw_below_drewN | apply below_drew1 | refine below_set ?_ GE158.out) | exact HB.out))) : w.heap.size ≤ gb176)); have n5_ := Aside0.mk ((by rw [hg]; exact Nat.ne_of_lt (blk_lt (g := gb158) (o := .cells #[.int .i64 a0_0, .int .i64 a0_1, .int .i64 a0_2, .int .i64 a0_3, .int .i64 a0_4, .int .i64 a0_5, .int .i64 a0_6, .int .i64 a0_7, .bool a0_8, .slice (some ad175) l0_9.length c0_9, .slice A0_10 l0_10.length c0_10] 28 (0, 0)) (by (with_reducible repeat (first | refine blk_drewN ?_ _ | refine blk_drew ?_ | refine blk_alloc ?_ _)); exact BK158.out)) : gb158 ≠ gb176)); have n6_ := Aside0.mk ((by rw [hg]; exact Nat.ne_of_gt (blk_lt (g := gb158) (o := .cells #[.int .i64 a0_0, .int .i64 a0_1, .int .i64 a0_2, .int .i64 a0_3, .int .i64 a0_4, .int .i64 a0_5, .int .i64 a0_6, .int .i64 a0_7, .bool a0_8, .slice (some ad175) l0_9.length c0_9, .slice A0_10 l0_10.length c0_10] 28 (0, 0)) (by (with_reducible repeat (first | refine blk_drewN ?_ _ | refine blk_drew ?_ | refine blk_alloc ?_ _)); exact BK158.out)) : gb176 ≠ gb158)); clear BK158; clear HB; have BK158 := n0_; have HB := n1_; have BK176 := n2_; have GW176 := n3_; have GE176 := n4_; have NB158_176 := n5_; have NB176_158 := n6_; clear n0_ n1_ n2_ n3_ n4_ n5_ n6_; clear hb hbox hg; have hnb67 := NB176_158.out; have hnc67 := NB158_176.out; have hcz68_0 : w66.cell? ⟨gb176, 0, none⟩ = some (.int .i64 0) := (blk_cell BK176.out 0).trans rfl; have hcz68_1 : w66.cell? ⟨gb176, 1, none⟩ = some (.int .i64 0) := (blk_cell BK176.out 1).trans rfl; have hcz68_2 : w66.cell? ⟨gb176, 2, none⟩ = some (.int .i64 0) := (blk_cell BK176.out 2).trans rfl; have hcz68_3 : w66.cell? ⟨gb176, 3, none⟩ = some (.int .i64 0) := (blk_cell BK176.out 3).trans rfl; have hfz68_0 := blk_frozen BK176.out 0; have hfz68_1 := blk_frozen BK176.out 1; have hfz68_2 := blk_frozen BK176.out 2; have hfz68_3 := blk_frozen BK176.out 3))
                                              (try simp only [Act.put, List.setIfInBounds_toArray, List.set_cons_zero, List.set_cons_succ])
                                              go_cut [134] (fun v134 wc => ∃ (kq : Nat) (x134_63 : Bool), v134 = .bool x134_63 ∧ Aside0 (contraref11_Write.j4 kq x4_4 x5_4 x134_63 a0_0 a0_1 a0_2 a0_3 a0_4 a0_5 a0_6 a0_7 a0_8 l0_9 l0_10 ((rd_T50 l0_9 x5_4).f0.f0) ((rd_T50 l0_9 x5_4).f0.f1) ((rd_T50 l0_9 x5_4).f1) ((rd_T50 l0_9 x5_4).f2) = some (r1, r2)) ∧ Aside0 (kq ≤ k4) ∧ Aside0 (wc.heap[gb158]? = some (.cells #[.int .i64 a0_0, .int .i64 a0_1, .int .i64 a0_2, .int .i64 a0_3, .int .i64 a0_4, .int .i64 a0_5, .int .i64 a0_6, .int .i64 a0_7, .bool a0_8, (.slice (some ad175) l0_9.length c0_9), (.slice A0_10 l0_10.length c0_10)] 28 (0, 0))) ∧ Aside0 (wc.heap[gb176]? = some (.cells #[.int .i64 ((rd_T50 l0_9 x5_4).f0.f0), .int .i64 ((rd_T50 l0_9 x5_4).f0.f1), .int .i64 ((rd_T50 l0_9 x5_4).f1), .int .i64 ((rd_T50 l0_9 x5_4).f2)] 50 (0, 0))) ∧ Aside0 (Below w.heap.size w wc))
                                              case first =>
                                                have H := HC64.out
                                                clear HC64
                                                replace H := Option.bind_eq_some_iff.mp H
                                                obtain ⟨t177, A690, H⟩ := H
                                                replace H : (if t177 = true then ((contraref11_small.f ((rd_T50 l0_9 x5_4).f0.f1)).bind fun t178 => (if t178 = true then ((contraref11_small.f ((rd_T50 l0_9 x5_4).f1)).bind fun t179 => (contraref11_Write.j4 k4 x4_4 x5_4 (!t179) a0_0 a0_1 a0_2 a0_3 a0_4 a0_5 a0_6 a0_7 a0_8 l0_9 l0_10 ((rd_T50 l0_9 x5_4).f0.f0) ((rd_T50 l0_9 x5_4).f0.f1) ((rd_T50 l0_9 x5_4).f1) ((rd_T50 l0_9 x5_4).f2))) else (contraref11_Write.j4 k4 x4_4 x5_4 true a0_0 a0_1 a0_2 a0_3 a0_4 a0_5 a0_6 a0_7 a0_8 l0_9 l0_10 ((rd_T50 l0_9 x5_4).f0.f0) ((rd_T50 l0_9 x5_4).f0.f1) ((rd_T50 l0_9 x5_4).f1) ((rd_T50 l0_9 x5_4).f2)))) else (contraref11_Write.j4 k4 x4_4 x5_4 true a0_0 a0_1 a0_2 a0_3 a0_4 a0_5 a0_6 a0_7 a0_8 l0_9 l0_10 ((rd_T50 l0_9 x5_4).f0.f0) ((rd_T50 l0_9 x5_4).f0.f1) ((rd_T50 l0_9 x5_4).f1) ((rd_T50 l0_9 x5_4).f2))) = some (r1, r2) := H
                                                have A69 := Aside0.mk A690
                                                clear A690
                                                by_cases c70 : t177 = true
                                                · subst c70
                                                  have H1 : ((contraref11_small.f ((rd_T50 l0_9 x5_4).f0.f1)).bind fun t178 => (if t178 = true then ((contraref11_small.f ((rd_T50 l0_9 x5_4).f1)).bind fun t179 => (contraref11_Write.j4 k4 x4_4 x5_4 (!t179) a0_0 a0_1 a0_2 a0_3 a0_4 a0_5 a0_6 a0_7 a0_8 l0_9 l0_10 ((rd_T50 l0_9 x5_4).f0.f0) ((rd_T50 l0_9 x5_4).f0.f1) ((rd_T50 l0_9 x5_4).f1) ((rd_T50 l0_9 x5_4).f2))) else (contraref11_Write.j4 k4 x4_4 x5_4 true a0_0 a0_1 a0_2 a0_3 a0_4 a0_5 a0_6 a0_7 a0_8 l0_9 l0_10 ((rd_T50 l0_9 x5_4).f0.f0) ((rd_T50 l0_9 x5_4).f0.f1) ((rd_T50 l0_9 x5_4).f1) ((rd_T50 l0_9 x5_4).f2)))) = some (r1, r2) := by rw [if_pos rfl] at H; exact H
                                                  clear H
                                                  have H := H1
                                                  clear H1
                                                  replace H := Option.bind_eq_some_iff.mp H
                                                  obtain ⟨t178, A710, H⟩ := H
                                                  replace H : (if t178 = true then ((contraref11_small.f ((rd_T50 l0_9 x5_4).f1)).bind fun t179 => (contraref11_Write.j4 k4 x4_4 x5_4 (!t179) a0_0 a0_1 a0_2 a0_3 a0_4 a0_5 a0_6 a0_7 a0_8 l0_9 l0_10 ((rd_T50 l0_9 x5_4).f0.f0) ((rd_T50 l0_9 x5_4).f0.f1) ((rd_T50 l0_9 x5_4).f1) ((rd_T50 l0_9 x5_4).f2))) else (contraref11_Write.j4 k4 x4_4 x5_4 true a0_0 a0_1 a0_2 a0_3 a0_4 a0_5 a0_6 a0_7 a0_8 l0_9 l0_10 ((rd_T50 l0_9 x5_4).f0.f0) ((rd_T50 l0_9 x5_4).f0.f1) ((rd_T50 l0_9 x5_4).f1) ((rd_T50 l0_9 x5_4).f2))) = some (r1, r2) := H
                                                  have A71 := Aside0.mk A710
                                                  clear A710
                                                  by_cases c72 : t178 = true
                                                  · subst c72
                                                    have H1 : ((contraref11_small.f ((rd_T50 l0_9 x5_4).f1)).bind fun t179 => (contraref11_Write.j4 k4 x4_4 x5_4 (!t179) a0_0 a0_1 a0_2 a0_3 a0_4 a0_5 a0_6 a0_7 a0_8 l0_9 l0_10 ((rd_T50 l0_9 x5_4).f0.f0) ((rd_T50 l0_9 x5_4).f0.f1) ((rd_T50 l0_9 x5_4).f1) ((rd_T50 l0_9 x5_4).f2))) = some (r1, r2) := by rw [if_pos rfl] at H; exact H
                                                    clear H
                                                    have H := H1
                                                    clear H1
                                                    replace H := Option.bind_eq_some_iff.mp H
                                                    obtain ⟨t179, A730, H⟩ := H
                                                    replace H : (contraref11_Write.j4 k4 x4_4 x5_4 (!t179) a0_0 a0_1 a0_2 a0_3 a0_4 a0_5 a0_6 a0_7 a0_8 l0_9 l0_10 ((rd_T50 l0_9 x5_4).f0.f0) ((rd_T50 l0_9 x5_4).f0.f1) ((rd_T50 l0_9 x5_4).f1) ((rd_T50 l0_9 x5_4).f2)) = some (r1, r2) := H
                                                    have A73 := Aside0.mk A730
                                                    clear A730
                                                    have H' := Aside0.mk H
                                                    clear H
                                                    have hnb74 := NB176_158.out
                                                    have hnc74 := NB158_176.out
                                                    have hcz75_0 : w66.cell? ⟨gb176, 0, none⟩ = some (.int .i64 0) := (blk_cell BK176.out 0).trans rfl
                                                    have hcz75_1 : w66.cell? ⟨gb176, 1, none⟩ = some (.int .i64 0) := (blk_cell BK176.out 1).trans rfl
                                                    have hcz75_2 : w66.cell? ⟨gb176, 2, none⟩ = some (.int .i64 0) := (blk_cell BK176.out 2).trans rfl
                                                    have hcz75_3 : w66.cell? ⟨gb176, 3, none⟩ = some (.int .i64 0) := (blk_cell BK176.out 3).trans rfl
                                                    have hfz75_0 := blk_frozen BK176.out 0
                                                    have hfz75_1 := blk_frozen BK176.out 1
                                                    have hfz75_2 := blk_frozen BK176.out 2
                                                    have hfz75_3 := blk_frozen BK176.out 3
                                                    go_wp2_with (first | ((with_reducible refine gate_callee (f := 26) rfl ?_); refine goesL_ (some 120) rfl rfl Try.func26 (by kernel_rfl) rfl #[.int .i64 ((rd_T50 l0_9 x5_4).f0.f0)] rfl (by (try simp only [List.map_toArray, List.map_cons, List.map_nil]); first | done | rfl | (simp only [List.length_drop, List.length_take]; rfl)) ?_; (with_reducible refine (contraref11_small.calls ((rd_T50 l0_9 x5_4).f0.f0) true _ A69.out).mono ?_); rintro e w' ⟨rfl, ⟨nd, rfl⟩⟩; refine ⟨_, rfl, ?_⟩) | (go_at_call 26; (with_reducible refine (contraref11_small.calls ((rd_T50 l0_9 x5_4).f0.f1) true _ A71.out).mono ?_); rintro e w' ⟨rfl, ⟨nd, rfl⟩⟩) | (go_at_call 26; (with_reducible refine (contraref11_small.calls ((rd_T50 l0_9 x5_4).f1) t179 _ A73.out).mono ?_); rintro e w' ⟨rfl, ⟨nd, rfl⟩⟩))
                                                    go_meet
                                                    case rel => exact ⟨_, (!t179), (by first | rfl | (simp; done) | (simp [*]; done)), H', ⟨by have := HJ1.out; have := HJ7.out; have := HJ12.out; have := HK4.out; first | omega | exact Nat.le_refl _⟩, ⟨by (with_reducible repeat (first | refine blk_drewN ?_ _ | refine blk_drew ?_ | refine blk_alloc ?_ _)); refine blk_far ?_ NB158_176.out _; (with_reducible repeat (first | refine blk_drewN ?_ _ | refine blk_drew ?_ | refine blk_alloc ?_ _)); refine blk_far ?_ NB158_176.out _; (with_reducible repeat (first | refine blk_drewN ?_ _ | refine blk_drew ?_ | refine blk_alloc ?_ _)); refine blk_far ?_ NB158_176.out _; (with_reducible repeat (first | refine blk_drewN ?_ _ | refine blk_drew ?_ | refine blk_alloc ?_ _)); refine blk_far ?_ NB158_176.out _; (with_reducible repeat (first | refine blk_drewN ?_ _ | refine blk_drew ?_ | refine blk_alloc ?_ _)); exact BK158.out⟩, ⟨by (with_reducible repeat (first | refine blk_drewN ?_ _ | refine blk_drew ?_ | refine blk_alloc ?_ _)); refine blk_put (cs := #[.int .i64 ((rd_T50 l0_9 x5_4).f0.f0), .int .i64 ((rd_T50 l0_9 x5_4).f0.f1), .int .i64 ((rd_T50 l0_9 x5_4).f1), .int .i64 0]) ?_ 3 _ rfl; (with_reducible repeat (first | refine blk_drewN ?_ _ | refine blk_drew ?_ | refine blk_alloc ?_ _)); refine blk_put (cs := #[.int .i64 ((rd_T50 l0_9 x5_4).f0.f0), .int .i64 ((rd_T50 l0_9 x5_4).f0.f1), .int .i64 0, .int .i64 0]) ?_ 2 _ rfl; (with_reducible repeat (first | refine blk_drewN ?_ _ | refine blk_drew ?_ | refine blk_alloc ?_ _)); refine blk_put (cs := #[.int .i64 ((rd_T50 l0_9 x5_4).f0.f0), .int .i64 0, .int .i64 0, .int .i64 0]) ?_ 1 _ rfl; (with_reducible repeat (first | refine blk_drewN ?_ _ | refine blk_drew ?_ | refine blk_alloc ?_ _)); refine blk_put (cs := #[.int .i64 0, .int .i64 0, .int .i64 0, .int .i64 0]) ?_ 0 _ rfl; (with_reducible repeat (first | refine blk_drewN ?_ _ | refine blk_drew ?_ | refine blk_alloc ?_ _)); exact BK176.out⟩, ⟨by repeat (first | (with_reducible first | exact HB.out | apply below_alloc | apply pw_below_drewN | apply below_drew1 | refine below_set ?_ GE158.out | refine below_set ?_ GE176.out) | exact HB.out)⟩⟩
                                                  · replace c72 := Bool.eq_false_iff.mpr c72
                                                    subst c72
                                                    have H1 : (contraref11_Write.j4 k4 x4_4 x5_4 true a0_0 a0_1 a0_2 a0_3 a0_4 a0_5 a0_6 a0_7 a0_8 l0_9 l0_10 ((rd_T50 l0_9 x5_4).f0.f0) ((rd_T50 l0_9 x5_4).f0.f1) ((rd_T50 l0_9 x5_4).f1) ((rd_T50 l0_9 x5_4).f2)) = some (r1, r2) := by rw [if_neg (show ¬ (false = true) by decide)] at H; exact H
                                                    clear H
                                                    have H := H1
                                                    clear H1
                                                    have H' := Aside0.mk H
                                                    clear H
                                                    have hnb76 := NB176_158.out
                                                    have hnc76 := NB158_176.out
                                                    have hcz77_0 : w66.cell? ⟨gb176, 0, none⟩ = some (.int .i64 0) := (blk_cell BK176.out 0).trans rfl
                                                    have hcz77_1 : w66.cell? ⟨gb176, 1, none⟩ = some (.int .i64 0) := (blk_cell BK176.out 1).trans rfl
                                                    have hcz77_2 : w66.cell? ⟨gb176, 2, none⟩ = some (.int .i64 0) := (blk_cell BK176.out 2).trans rfl
                                                    have hcz77_3 : w66.cell? ⟨gb176, 3, none⟩ = some (.int .i64 0) := (blk_cell BK176.out 3).trans rfl
                                                    have hfz77_0 := blk_frozen BK176.out 0
                                                    have hfz77_1 := blk_frozen BK176.out 1
                                                    have hfz77_2 := blk_frozen BK176.out 2
                                                    have hfz77_3 := blk_frozen BK176.out 3
                                                    go_wp2_with (first | ((with_reducible refine gate_callee (f := 26) rfl ?_); refine goesL_ (some 120) rfl rfl Try.func26 (by kernel_rfl) rfl #[.int .i64 ((rd_T50 l0_9 x5_4).f0.f0)] rfl (by (try simp only [List.map_toArray, List.map_cons, List.map_nil]); first | done | rfl | (simp only [List.length_drop, List.length_take]; rfl)) ?_; (with_reducible refine (contraref11_small.calls ((rd_T50 l0_9 x5_4).f0.f0) true _ A69.out).mono ?_); rintro e w' ⟨rfl, ⟨nd, rfl⟩⟩; refine ⟨_, rfl, ?_⟩) | (go_at_call 26; (with_reducible refine (contraref11_small.calls ((rd_T50 l0_9 x5_4).f0.f1) false _ A71.out).mono ?_); rintro e w' ⟨rfl, ⟨nd, rfl⟩⟩))
                                                    go_meet
                                                    case rel => exact ⟨_, (true), (by first | rfl | (simp; done) | (simp [*]; done)), H', ⟨by have := HJ1.out; have := HJ7.out; have := HJ12.out; have := HK4.out; first | omega | exact Nat.le_refl _⟩, ⟨by (with_reducible repeat (first | refine blk_drewN ?_ _ | refine blk_drew ?_ | refine blk_alloc ?_ _)); refine blk_far ?_ NB158_176.out _; (with_reducible repeat (first | refine blk_drewN ?_ _ | refine blk_drew ?_ | refine blk_alloc ?_ _)); refine blk_far ?_ NB158_176.out _; (with_reducible repeat (first | refine blk_drewN ?_ _ | refine blk_drew ?_ | refine blk_alloc ?_ _)); refine blk_far ?_ NB158_176.out _; (with_reducible repeat (first | refine blk_drewN ?_ _ | refine blk_drew ?_ | refine blk_alloc ?_ _)); refine blk_far ?_ NB158_176.out _; (with_reducible repeat (first | refine blk_drewN ?_ _ | refine blk_drew ?_ | refine blk_alloc ?_ _)); exact BK158.out⟩, ⟨by (with_reducible repeat (first | refine blk_drewN ?_ _ | refine blk_drew ?_ | refine blk_alloc ?_ _)); refine blk_put (cs := #[.int .i64 ((rd_T50 l0_9 x5_4).f0.f0), .int .i64 ((rd_T50 l0_9 x5_4).f0.f1), .int .i64 ((rd_T50 l0_9 x5_4).f1), .int .i64 0]) ?_ 3 _ rfl; (with_reducible repeat (first | refine blk_drewN ?_ _ | refine blk_drew ?_ | refine blk_alloc ?_ _)); refine blk_put (cs := #[.int .i64 ((rd_T50 l0_9 x5_4).f0.f0), .int .i64 ((rd_T50 l0_9 x5_4).f0.f1), .int .i64 0, .int .i64 0]) ?_ 2 _ rfl; (with_reducible repeat (first | refine blk_drewN ?_ _ | refine blk_drew ?_ | refine blk_alloc ?_ _)); refine blk_put (cs := #[.int .i64 ((rd_T50 l0_9 x5_4).f0.f0), .int .i64 0, .int .i64 0, .int .i64 0]) ?_ 1 _ rfl; (with_reducible repeat (first | refine blk_drewN ?_ _ | refine blk_drew ?_ | refine blk_alloc ?_ _)); refine blk_put (cs := #[.int .i64 0, .int .i64 0, .int .i64 0, .int .i64 0]) ?_ 0 _ rfl; (with_reducible repeat (first | refine blk_drewN ?_ _ | refine blk_drew ?_ | refine blk_alloc ?_ _)); exact BK176.out⟩, ⟨by repeat (first | (with_reducible first | exact HB.out | apply below_alloc | apply pw_below_drewN | apply below_drew1 | refine below_set ?_ GE158.out | refine below_set ?_ GE176.out) | exact HB.out)⟩⟩
                                                · replace c70 := Bool.eq_false_iff.mpr c70
                                                  subst c70
                                                  have H1 : (contraref11_Write.j4 k4 x4_4 x5_4 true a0_0 a0_1 a0_2 a0_3 a0_4 a0_5 a0_6 a0_7 a0_8 l0_9 l0_10 ((rd_T50 l0_9 x5_4).f0.f0) ((rd_T50 l0_9 x5_4).f0.f1) ((rd_T50 l0_9 x5_4).f1) ((rd_T50 l0_9 x5_4).f2)) = some (r1, r2) := by rw [if_neg (show ¬ (false = true) by decide)] at H; exact H
                                                  clear H
                                                  have H := H1
                                                  clear H1
                                                  have H' := Aside0.mk H
                                                  clear H
                                                  have hnb78 := NB176_158.out
                                                  have hnc78 := NB158_176.out
                                                  have hcz79_0 : w66.cell? ⟨gb176, 0, none⟩ = some (.int .i64 0) := (blk_cell BK176.out 0).trans rfl
                                                  have hcz79_1 : w66.cell? ⟨gb176, 1, none⟩ = some (.int .i64 0) := (blk_cell BK176.out 1).trans rfl
                                                  have hcz79_2 : w66.cell? ⟨gb176, 2, none⟩ = some (.int .i64 0) := (blk_cell BK176.out 2).trans rfl
                                                  have hcz79_3 : w66.cell? ⟨gb176, 3, none⟩ = some (.int .i64 0) := (blk_cell BK176.out 3).trans rfl
                                                  have hfz79_0 := blk_frozen BK176.out 0
                                                  have hfz79_1 := blk_frozen BK176.out 1
                                                  have hfz79_2 := blk_frozen BK176.out 2
                                                  have hfz79_3 := blk_frozen BK176.out 3
                                                  go_wp2_with (first | ((with_reducible refine gate_callee (f := 26) rfl ?_); refine goesL_ (some 120) rfl rfl Try.func26 (by kernel_rfl) rfl #[.int .i64 ((rd_T50 l0_9 x5_4).f0.f0)] rfl (by (try simp only [List.map_toArray, List.map_cons, List.map_nil]); first | done | rfl | (simp only [List.length_drop, List.length_take]; rfl)) ?_; (with_reducible refine (contraref11_small.calls ((rd_T50 l0_9 x5_4).f0.f0) false _ A69.out).mono ?_); rintro e w' ⟨rfl, ⟨nd, rfl⟩⟩; refine ⟨_, rfl, ?_⟩))
                                                  go_meet
                                                  case rel => exact ⟨_, (true), (by first | rfl | (simp; done) | (simp [*]; done)), H', ⟨by have := HJ1.out; have := HJ7.out; have := HJ12.out; have := HK4.out; first | omega | exact Nat.le_refl _⟩, ⟨by (with_reducible repeat (first | refine blk_drewN ?_ _ | refine blk_drew ?_ | refine blk_alloc ?_ _)); refine blk_far ?_ NB158_176.out _; (with_reducible repeat (first | refine blk_drewN ?_ _ | refine blk_drew ?_ | refine blk_alloc ?_ _)); refine blk_far ?_ NB158_176.out _; (with_reducible repeat (first | refine blk_drewN ?_ _ | refine blk_drew ?_ | refine blk_alloc ?_ _)); refine blk_far ?_ NB158_176.out _; (with_reducible repeat (first | refine blk_drewN ?_ _ | refine blk_drew ?_ | refine blk_alloc ?_ _)); refine blk_far ?_ NB158_176.out _; (with_reducible repeat (first | refine blk_drewN ?_ _ | refine blk_drew ?_ | refine blk_alloc ?_ _)); exact BK158.out⟩, ⟨by (with_reducible repeat (first | refine blk_drewN ?_ _ | refine blk_drew ?_ | refine blk_alloc ?_ _)); refine blk_put (cs := #[.int .i64 ((rd_T50 l0_9 x5_4).f0.f0), .int .i64 ((rd_T50 l0_9 x5_4).f0.f1), .int .i64 ((rd_T50 l0_9 x5_4).f1), .int .i64 0]) ?_ 3 _ rfl; (with_reducible repeat (first | refine blk_drewN ?_ _ | refine blk_drew ?_ | refine blk_alloc ?_ _)); refine blk_put (cs := #[.int .i64 ((rd_T50 l0_9 x5_4).f0.f0), .int .i64 ((rd_T50 l0_9 x5_4).f0.f1), .int .i64 0, .int .i64 0]) ?_ 2 _ rfl; (with_reducible repeat (first | refine blk_drewN ?_ _ | refine blk_drew ?_ | refine blk_alloc ?_ _)); refine blk_put (cs := #[.int .i64 ((rd_T50 l0_9 x5_4).f0.f0), .int .i64 0, .int .i64 0, .int .i64 0]) ?_ 1 _ rfl; (with_reducible repeat (first | refine blk_drewN ?_ _ | refine blk_drew ?_ | refine blk_alloc ?_ _)); refine blk_put (cs := #[.int .i64 0, .int .i64 0, .int .i64 0, .int .i64 0]) ?_ 0 _ rfl; (with_reducible repeat (first | refine blk_drewN ?_ _ | refine blk_drew ?_ | refine blk_alloc ?_ _)); exact BK176.out⟩, ⟨by repeat (first | (with_reducible first | exact HB.out | apply below_alloc | apply pw_below_drewN | apply below_drew1 | refine below_set ?_ GE158.out | refine below_set ?_ GE176.out) | exact HB.out)⟩⟩
                                              case rest =>
                                                clear HC64
                                                try clear p1
                                                try clear q1
                                                try clear hx1
                                                try clear c2
                                                try clear p2
                                                try clear c3
                                                try clear c4
                                                try clear c5
                                                try clear c6
                                                try clear c7
                                                try clear p17
                                                try clear q17
                                                try clear hx17
                                                try clear c26
                                                try clear c27
                                                try clear c28
                                                try clear c36
                                                try clear c36b1
                                                try clear c36b2
                                                try clear c38
                                                try clear c38b0
                                                try clear c38b1
                                                try clear c38b2
                                                try clear c40
                                                try clear c40b0
                                                try clear c40b1
                                                try clear c40b2
                                                try clear c42
                                                try clear c42b0
                                                try clear c42b1
                                                try clear c42b2
                                                try clear c44
                                                try clear c44b0
                                                try clear c44b1
                                                try clear c44b2
                                                try clear c47
                                                try clear c47b0
                                                try clear c47b1
                                                try clear c47b2
                                                try clear c49
                                                try clear c49b0
                                                try clear c49b1
                                                try clear c49b2
                                                try clear c50
                                                try clear c50b0
                                                try clear c50b1
                                                try clear c50b2
                                                try clear c62
                                                try clear c62b0
                                                try clear c63
                                                try clear c63b0
                                                try clear c67
                                                try clear c70
                                                try clear c72
                                                try clear c74
                                                try clear c76
                                                try clear c78
                                                try clear hcz65_0
                                                try clear hcz65_1
                                                try clear hcz65_10
                                                try clear hcz65_2
                                                try clear hcz65_3
                                                try clear hcz65_4
                                                try clear hcz65_5
                                                try clear hcz65_6
                                                try clear hcz65_7
                                                try clear hcz65_8
                                                try clear hcz65_9
                                                try clear hcz68_0
                                                try clear hcz68_1
                                                try clear hcz68_2
                                                try clear hcz68_3
                                                try clear hcz75_0
                                                try clear hcz75_1
                                                try clear hcz75_2
                                                try clear hcz75_3
                                                try clear hcz77_0
                                                try clear hcz77_1
                                                try clear hcz77_2
                                                try clear hcz77_3
                                                try clear hcz79_0
                                                try clear hcz79_1
                                                try clear hcz79_2
                                                try clear hcz79_3
                                                try clear hfz65_0
                                                try clear hfz65_1
                                                try clear hfz65_10
                                                try clear hfz65_2
                                                try clear hfz65_3
                                                try clear hfz65_4
                                                try clear hfz65_5
                                                try clear hfz65_6
                                                try clear hfz65_7
                                                try clear hfz65_8
                                                try clear hfz65_9
                                                try clear hfz68_0
                                                try clear hfz68_1
                                                try clear hfz68_2
                                                try clear hfz68_3
                                                try clear hfz75_0
                                                try clear hfz75_1
                                                try clear hfz75_2
                                                try clear hfz75_3
                                                try clear hfz77_0
                                                try clear hfz77_1
                                                try clear hfz77_2
                                                try clear hfz77_3
                                                try clear hfz79_0
                                                try clear hfz79_1
                                                try clear hfz79_2
                                                try clear hfz79_3
                                                try clear hx175_0
                                                try clear hx175_1
                                                try clear hx175_2
                                                try clear hx175_3
                                                try clear p175
                                                try clear p2
                                                try clear q175
                                                obtain ⟨kq, x134_63, rfl, HA, HJ63, BK158, BK176, HB⟩ := hcut
                                                cases kq with
                                                | zero => exact absurd HA.out (by simp [contraref11_Write.j4])
                                                | succ kj63 =>
                                                  have H := HA.out
                                                  clear HA
                                                  simp only [contraref11_Write.j4] at H
                                                  by_cases c80 : x134_63 = true
                                                  · subst c80
                                                    have H1 : (some ((⟨#[]⟩ : ByteArray), 1)) = some (r1, r2) := by rw [if_pos rfl] at H; exact H
                                                    clear H
                                                    have H := H1
                                                    clear H1
                                                    simp only [Option.some.injEq, Prod.mk.injEq] at H
                                                    obtain ⟨rfl, rfl⟩ := H
                                                    go_wp2
                                                    go_ret2
                                                    exact ⟨by first | rfl | (simp [errW_none, errW_some] <;> rfl) | (simp [*, errW_none, errW_some] <;> rfl), by repeat (first | (with_reducible first | exact HB.out | apply below_alloc | apply pw_below_drewN | apply below_drew1 | refine below_set ?_ GE158.out | refine below_set ?_ GE176.out) | exact HB.out)⟩
                                                  · replace c80 := Bool.eq_false_iff.mpr c80
                                                    subst c80
                                                    have H1 : ((contraref04_Num.f kj63 ((rd_T50 l0_9 x5_4).f0.f0)).bind fun t180 => ((contraref04_Num.f kj63 ((rd_T50 l0_9 x5_4).f0.f1)).bind fun t181 => (if t180.size + t181.size ≤ 9223372036854775807 then ((contraref04_Num.f kj63 ((rd_T50 l0_9 x5_4).f1)).bind fun t182 => (if (t180 ++ t181).size + t182.size ≤ 9223372036854775807 then ((contraref04_Num.f kj63 ((rd_T50 l0_9 x5_4).f2)).bind fun t183 => (if ((t180 ++ t181) ++ t182).size + t183.size ≤ 9223372036854775807 then (if x4_4.size + (((t180 ++ t181) ++ t182) ++ t183).size ≤ 9223372036854775807 then (contraref11_Write.l0 kj63 (x4_4 ++ (((t180 ++ t181) ++ t182) ++ t183)) (wrap64 (x5_4 + 1)) a0_0 a0_1 a0_2 a0_3 a0_4 a0_5 a0_6 a0_7 a0_8 l0_9 l0_10) else (none)) else (none))) else (none))) else (none)))) = some (r1, r2) := by rw [if_neg (show ¬ (false = true) by decide)] at H; exact H
                                                    clear H
                                                    have H := H1
                                                    clear H1
                                                    replace H := Option.bind_eq_some_iff.mp H
                                                    obtain ⟨t180, A810, H⟩ := H
                                                    replace H : ((contraref04_Num.f kj63 ((rd_T50 l0_9 x5_4).f0.f1)).bind fun t181 => (if t180.size + t181.size ≤ 9223372036854775807 then ((contraref04_Num.f kj63 ((rd_T50 l0_9 x5_4).f1)).bind fun t182 => (if (t180 ++ t181).size + t182.size ≤ 9223372036854775807 then ((contraref04_Num.f kj63 ((rd_T50 l0_9 x5_4).f2)).bind fun t183 => (if ((t180 ++ t181) ++ t182).size + t183.size ≤ 9223372036854775807 then (if x4_4.size + (((t180 ++ t181) ++ t182) ++ t183).size ≤ 9223372036854775807 then (contraref11_Write.l0 kj63 (x4_4 ++ (((t180 ++ t181) ++ t182) ++ t183)) (wrap64 (x5_4 + 1)) a0_0 a0_1 a0_2 a0_3 a0_4 a0_5 a0_6 a0_7 a0_8 l0_9 l0_10) else (none)) else (none))) else (none))) else (none))) = some (r1, r2) := H
                                                    have A81 := Aside0.mk A810
                                                    clear A810
                                                    replace H := Option.bind_eq_some_iff.mp H
                                                    obtain ⟨t181, A820, H⟩ := H
                                                    replace H : (if t180.size + t181.size ≤ 9223372036854775807 then ((contraref04_Num.f kj63 ((rd_T50 l0_9 x5_4).f1)).bind fun t182 => (if (t180 ++ t181).size + t182.size ≤ 9223372036854775807 then ((contraref04_Num.f kj63 ((rd_T50 l0_9 x5_4).f2)).bind fun t183 => (if ((t180 ++ t181) ++ t182).size + t183.size ≤ 9223372036854775807 then (if x4_4.size + (((t180 ++ t181) ++ t182) ++ t183).size ≤ 9223372036854775807 then (contraref11_Write.l0 kj63 (x4_4 ++ (((t180 ++ t181) ++ t182) ++ t183)) (wrap64 (x5_4 + 1)) a0_0 a0_1 a0_2 a0_3 a0_4 a0_5 a0_6 a0_7 a0_8 l0_9 l0_10) else (none)) else (none))) else (none))) else (none)) = some (r1, r2) := H
                                                    have A82 := Aside0.mk A820
                                                    clear A820
                                                    by_cases c83 : t180.size + t181.size ≤ 9223372036854775807
                                                    · rw [if_pos c83] at H
                                                      have c83b0 := eq_true c83
                                                      have c83b1 : decide (t180.size + t181.size ≤ 9223372036854775807) = true := decide_eq_true c83
                                                      try have c83b2 : (9223372036854775807 < t180.size + t181.size) = False := eq_false (Nat.not_lt.2 c83)
                                                      try have c83b3 := c83b2
                                                      try simp only [ByteArray.size_append] at c83b3
                                                      replace H := Option.bind_eq_some_iff.mp H
                                                      obtain ⟨t182, A840, H⟩ := H
                                                      replace H : (if (t180 ++ t181).size + t182.size ≤ 9223372036854775807 then ((contraref04_Num.f kj63 ((rd_T50 l0_9 x5_4).f2)).bind fun t183 => (if ((t180 ++ t181) ++ t182).size + t183.size ≤ 9223372036854775807 then (if x4_4.size + (((t180 ++ t181) ++ t182) ++ t183).size ≤ 9223372036854775807 then (contraref11_Write.l0 kj63 (x4_4 ++ (((t180 ++ t181) ++ t182) ++ t183)) (wrap64 (x5_4 + 1)) a0_0 a0_1 a0_2 a0_3 a0_4 a0_5 a0_6 a0_7 a0_8 l0_9 l0_10) else (none)) else (none))) else (none)) = some (r1, r2) := H
                                                      have A84 := Aside0.mk A840
                                                      clear A840
                                                      by_cases c85 : (t180 ++ t181).size + t182.size ≤ 9223372036854775807
                                                      · rw [if_pos c85] at H
                                                        have c85b0 := eq_true c85
                                                        have c85b1 : decide ((t180 ++ t181).size + t182.size ≤ 9223372036854775807) = true := decide_eq_true c85
                                                        try have c85b2 : (9223372036854775807 < (t180 ++ t181).size + t182.size) = False := eq_false (Nat.not_lt.2 c85)
                                                        try have c85b3 := c85b2
                                                        try simp only [ByteArray.size_append] at c85b3
                                                        replace H := Option.bind_eq_some_iff.mp H
                                                        obtain ⟨t183, A860, H⟩ := H
                                                        replace H : (if ((t180 ++ t181) ++ t182).size + t183.size ≤ 9223372036854775807 then (if x4_4.size + (((t180 ++ t181) ++ t182) ++ t183).size ≤ 9223372036854775807 then (contraref11_Write.l0 kj63 (x4_4 ++ (((t180 ++ t181) ++ t182) ++ t183)) (wrap64 (x5_4 + 1)) a0_0 a0_1 a0_2 a0_3 a0_4 a0_5 a0_6 a0_7 a0_8 l0_9 l0_10) else (none)) else (none)) = some (r1, r2) := H
                                                        have A86 := Aside0.mk A860
                                                        clear A860
                                                        by_cases c87 : ((t180 ++ t181) ++ t182).size + t183.size ≤ 9223372036854775807
                                                        · rw [if_pos c87] at H
                                                          have c87b0 := eq_true c87
                                                          have c87b1 : decide (((t180 ++ t181) ++ t182).size + t183.size ≤ 9223372036854775807) = true := decide_eq_true c87
                                                          try have c87b2 : (9223372036854775807 < ((t180 ++ t181) ++ t182).size + t183.size) = False := eq_false (Nat.not_lt.2 c87)
                                                          try have c87b3 := c87b2
                                                          try simp only [ByteArray.size_append] at c87b3
                                                          by_cases c88 : x4_4.size + (((t180 ++ t181) ++ t182) ++ t183).size ≤ 9223372036854775807
                                                          · rw [if_pos c88] at H
                                                            have c88b0 := eq_true c88
                                                            have c88b1 : decide (x4_4.size + (((t180 ++ t181) ++ t182) ++ t183).size ≤ 9223372036854775807) = true := decide_eq_true c88
                                                            try have c88b2 : (9223372036854775807 < x4_4.size + (((t180 ++ t181) ++ t182) ++ t183).size) = False := eq_false (Nat.not_lt.2 c88)
                                                            try have c88b3 := c88b2
                                                            try simp only [ByteArray.size_append] at c88b3
                                                            have H' := Aside0.mk H
                                                            clear H
                                                            try go_wp2
                                                            have n0_ := Aside0.mk (blk_drew BK158.out)
                                                            have n1_ := Aside0.mk (blk_drew BK176.out)
                                                            have n2_ := Aside0.mk (below_drew1 HB.out)
                                                            clear BK158
                                                            clear BK176
                                                            clear HB
                                                            have BK158 := n0_
                                                            have BK176 := n1_
                                                            have HB := n2_
                                                            clear n0_ n1_ n2_
                                                            refine start_ (n := 20) (S := fun w' => w'.cell? ⟨gb176, 0, none⟩ = some (.int .i64 ((rd_T50 l0_9 x5_4).f0.f0)) ∧ w'.cell? ⟨gb176, 1, none⟩ = some (.int .i64 ((rd_T50 l0_9 x5_4).f0.f1)) ∧ w'.cell? ⟨gb176, 2, none⟩ = some (.int .i64 ((rd_T50 l0_9 x5_4).f1)) ∧ w'.cell? ⟨gb176, 3, none⟩ = some (.int .i64 ((rd_T50 l0_9 x5_4).f2))) (ds := []) #[false, false, false, false, false, false, false, false, false, false, false, false, false, false, false, false, false, false, false, false] (by kernel_rfl) rfl rfl ⟨(blk_cell BK176.out 0).trans rfl, (blk_cell BK176.out 1).trans rfl, (blk_cell BK176.out 2).trans rfl, (blk_cell BK176.out 3).trans rfl⟩ (fun hHeld => ?_); refine with_tabW contraref11_Write.tab15 contraref11_Write.bits15 (fun HT_ HW_ => ?_)
                                                            generalize wc.drew = w89 at BK158 BK176 HB hHeld ⊢
                                                            refine pure_ (i := 0) (N := some 135) (v := ?_) (a' := ?_) #[true, false, false, false, false, false, false, false, false, false, false, false, false, false, false, false, false, false, false, false] rfl rfl (any_of HT_.out (by kernel_rfl)) (fun _ _ _ h => h) (Or.inl ⟨by rfl, ?_⟩) ?_ ?_
                                                            rotate_left
                                                            · intro w'
                                                              go_simp
                                                              with_reducible rfl
                                                            rotate_left
                                                            · simp only [Act.put, List.setIfInBounds_toArray, List.set_cons_zero, List.set_cons_succ, i64_w, i32_w]
                                                              rfl
                                                            refine pure_ (i := 1) (N := some 136) (v := ?_) (a' := ?_) #[true, true, false, false, false, false, false, false, false, false, false, false, false, false, false, false, false, false, false, false] rfl rfl (any_of HT_.out (by kernel_rfl)) (fun _ _ _ h => h) (Or.inl ⟨by rfl, ?_⟩) ?_ ?_
                                                            rotate_left
                                                            · intro w'
                                                              go_simp
                                                              with_reducible rfl
                                                            rotate_left
                                                            · simp only [Act.put, List.setIfInBounds_toArray, List.set_cons_zero, List.set_cons_succ, i64_w, i32_w]
                                                              rfl
                                                            refine pure_ (i := 2) (N := some 137) (v := ?_) (a' := ?_) #[true, true, true, false, false, false, false, false, false, false, false, false, false, false, false, false, false, false, false, false] rfl rfl (any_of HT_.out (by kernel_rfl)) (fun _ _ _ h => h) (Or.inl ⟨by rfl, ?_⟩) ?_ ?_
                                                            rotate_left
                                                            · intro w'
                                                              go_simp
                                                              with_reducible rfl
                                                            rotate_left
                                                            · simp only [Act.put, List.setIfInBounds_toArray, List.set_cons_zero, List.set_cons_succ, i64_w, i32_w]
                                                              rfl
                                                            refine pure_ (i := 5) (N := some 140) (v := ?_) (a' := ?_) #[true, true, true, false, false, true, false, false, false, false, false, false, false, false, false, false, false, false, false, false] rfl rfl (any_of HT_.out (by kernel_rfl)) (fun _ _ _ h => h) (Or.inl ⟨by rfl, ?_⟩) ?_ ?_
                                                            rotate_left
                                                            · intro w'
                                                              go_simp
                                                              with_reducible rfl
                                                            rotate_left
                                                            · simp only [Act.put, List.setIfInBounds_toArray, List.set_cons_zero, List.set_cons_succ, i64_w, i32_w]
                                                              rfl
                                                            refine pure_ (i := 6) (N := some 141) (v := ?_) (a' := ?_) #[true, true, true, false, false, true, true, false, false, false, false, false, false, false, false, false, false, false, false, false] rfl rfl (any_of HT_.out (by kernel_rfl)) (fun _ _ _ h => h) (Or.inl ⟨by rfl, ?_⟩) ?_ ?_
                                                            rotate_left
                                                            · intro w'
                                                              go_simp
                                                              with_reducible rfl
                                                            rotate_left
                                                            · simp only [Act.put, List.setIfInBounds_toArray, List.set_cons_zero, List.set_cons_succ, i64_w, i32_w]
                                                              rfl
                                                            refine pure_ (i := 10) (N := some 145) (v := ?_) (a' := ?_) #[true, true, true, false, false, true, true, false, false, false, true, false, false, false, false, false, false, false, false, false] rfl rfl (any_of HT_.out (by kernel_rfl)) (fun _ _ _ h => h) (Or.inl ⟨by rfl, ?_⟩) ?_ ?_
                                                            rotate_left
                                                            · intro w'
                                                              go_simp
                                                              with_reducible rfl
                                                            rotate_left
                                                            · simp only [Act.put, List.setIfInBounds_toArray, List.set_cons_zero, List.set_cons_succ, i64_w, i32_w]
                                                              rfl
                                                            refine pure_ (i := 14) (N := some 149) (v := ?_) (a' := ?_) #[true, true, true, false, false, true, true, false, false, false, true, false, false, false, true, false, false, false, false, false] rfl rfl (any_of HT_.out (by kernel_rfl)) (fun _ _ _ h => h) (Or.inl ⟨by rfl, ?_⟩) ?_ ?_
                                                            rotate_left
                                                            · intro w'
                                                              go_simp
                                                              with_reducible rfl
                                                            rotate_left
                                                            · simp only [Act.put, List.setIfInBounds_toArray, List.set_cons_zero, List.set_cons_succ, i64_w, i32_w]
                                                              rfl
                                                            refine take_ (i := 3) (N := some 138) (v := ?_) (a' := ?_) #[true, true, true, true, false, true, true, false, false, false, true, false, false, false, true, false, false, false, false, false] rfl rfl (take_ofW HT_.out HW_.out (by kernel_rfl)) (fun _ _ _ h => h) (Or.inl ⟨by rfl, ?_⟩) hHeld ?_ ?_
                                                            rotate_left
                                                            · rintro w' ⟨s0, s1, s2, s3⟩
                                                              go_simp
                                                              with_reducible rfl
                                                            rotate_left
                                                            · simp only [Act.put, List.setIfInBounds_toArray, List.set_cons_zero, List.set_cons_succ, i64_w, i32_w]
                                                              rfl
                                                            refine take_ (i := 7) (N := some 142) (v := ?_) (a' := ?_) #[true, true, true, true, false, true, true, true, false, false, true, false, false, false, true, false, false, false, false, false] rfl rfl (take_ofW HT_.out HW_.out (by kernel_rfl)) (fun _ _ _ h => h) (Or.inl ⟨by rfl, ?_⟩) hHeld ?_ ?_
                                                            rotate_left
                                                            · rintro w' ⟨s0, s1, s2, s3⟩
                                                              go_simp
                                                              with_reducible rfl
                                                            rotate_left
                                                            · simp only [Act.put, List.setIfInBounds_toArray, List.set_cons_zero, List.set_cons_succ, i64_w, i32_w]
                                                              rfl
                                                            refine take_ (i := 11) (N := some 146) (v := ?_) (a' := ?_) #[true, true, true, true, false, true, true, true, false, false, true, true, false, false, true, false, false, false, false, false] rfl rfl (take_ofW HT_.out HW_.out (by kernel_rfl)) (fun _ _ _ h => h) (Or.inl ⟨by rfl, ?_⟩) hHeld ?_ ?_
                                                            rotate_left
                                                            · rintro w' ⟨s0, s1, s2, s3⟩
                                                              go_simp
                                                              with_reducible rfl
                                                            rotate_left
                                                            · simp only [Act.put, List.setIfInBounds_toArray, List.set_cons_zero, List.set_cons_succ, i64_w, i32_w]
                                                              rfl
                                                            refine take_ (i := 15) (N := some 150) (v := ?_) (a' := ?_) #[true, true, true, true, false, true, true, true, false, false, true, true, false, false, true, true, false, false, false, false] rfl rfl (take_ofW HT_.out HW_.out (by kernel_rfl)) (fun _ _ _ h => h) (Or.inl ⟨by rfl, ?_⟩) hHeld ?_ ?_
                                                            rotate_left
                                                            · rintro w' ⟨s0, s1, s2, s3⟩
                                                              go_simp
                                                              with_reducible rfl
                                                            rotate_left
                                                            · simp only [Act.put, List.setIfInBounds_toArray, List.set_cons_zero, List.set_cons_succ, i64_w, i32_w]
                                                              rfl
                                                            refine one_ (i := 4) (N := some 139) #[true, true, true, true, true, true, true, true, false, false, true, true, false, false, true, true, false, false, false, false] rfl rfl (one_of HT_.out (by kernel_rfl)) (by decide) (fun K hK => ?_)
                                                            refine goes_ Try.func27 (by kernel_rfl) rfl #[.int .i64 ((rd_T50 l0_9 x5_4).f0.f0)] (by rfl) rfl rfl (by (try simp only [List.map_toArray, List.map_cons, List.map_nil]); first | done | rfl | (simp only [List.length_drop, List.length_take]; rfl)) ?_
                                                            with_reducible refine (contraref04_Num.calls kj63 ((rd_T50 l0_9 x5_4).f0.f0) t180 _ A81.out).mono ?_
                                                            rintro e w90 ⟨rfl, hb⟩
                                                            refine ⟨_, rfl, ?_⟩
                                                            have n0_ := Aside0.mk (blk_below (g := gb158) (o := .cells #[.int .i64 a0_0, .int .i64 a0_1, .int .i64 a0_2, .int .i64 a0_3, .int .i64 a0_4, .int .i64 a0_5, .int .i64 a0_6, .int .i64 a0_7, .bool a0_8, .slice (some ad175) l0_9.length c0_9, .slice A0_10 l0_10.length c0_10] 28 (0, 0)) (by (with_reducible repeat (first | refine blk_drewN ?_ _ | refine blk_drew ?_ | refine blk_alloc ?_ _)); exact BK158.out) hb)
                                                            have n1_ := Aside0.mk (blk_below (g := gb176) (o := .cells #[.int .i64 ((rd_T50 l0_9 x5_4).f0.f0), .int .i64 ((rd_T50 l0_9 x5_4).f0.f1), .int .i64 ((rd_T50 l0_9 x5_4).f1), .int .i64 ((rd_T50 l0_9 x5_4).f2)] 50 (0, 0)) (by (with_reducible repeat (first | refine blk_drewN ?_ _ | refine blk_drew ?_ | refine blk_alloc ?_ _)); exact BK176.out) hb)
                                                            have n2_ := Aside0.mk (below_step (by repeat (first | (with_reducible first | exact HB.out | apply below_alloc | apply pw_below_drewN | apply below_drew1 | refine below_set ?_ GE158.out | refine below_set ?_ GE176.out) | exact HB.out)) hb)
                                                            clear BK158
                                                            clear BK176
                                                            clear HB
                                                            have BK158 := n0_
                                                            have BK176 := n1_
                                                            have HB := n2_
                                                            clear n0_ n1_ n2_
                                                            (try clear hb)
                                                            (try clear hb2)
                                                            (try clear hk)
                                                            (try clear hi)
                                                            refine hK.out _ _ ⟨(blk_cell BK176.out 0).trans rfl, (blk_cell BK176.out 1).trans rfl, (blk_cell BK176.out 2).trans rfl, (blk_cell BK176.out 3).trans rfl⟩ (fun hHeld => ?_)
                                                            clear hK K
                                                            refine norm_ (a' := ?_) ?_ ?_
                                                            rotate_left
                                                            · show Act.put _ (some 139) _ = _
                                                              simp only [Act.put, List.setIfInBounds_toArray, List.set_cons_zero, List.set_cons_succ, i64_w, i32_w]
                                                              rfl
                                                            refine one_ (i := 8) (N := some 143) #[true, true, true, true, true, true, true, true, true, false, true, true, false, false, true, true, false, false, false, false] rfl rfl (one_of HT_.out (by kernel_rfl)) (by decide) (fun K hK => ?_)
                                                            refine goes_ Try.func27 (by kernel_rfl) rfl #[.int .i64 ((rd_T50 l0_9 x5_4).f0.f1)] (by rfl) rfl rfl (by (try simp only [List.map_toArray, List.map_cons, List.map_nil]); first | done | rfl | (simp only [List.length_drop, List.length_take]; rfl)) ?_
                                                            with_reducible refine (contraref04_Num.calls kj63 ((rd_T50 l0_9 x5_4).f0.f1) t181 _ A82.out).mono ?_
                                                            rintro e w91 ⟨rfl, hb⟩
                                                            refine ⟨_, rfl, ?_⟩
                                                            have n0_ := Aside0.mk (blk_below (g := gb158) (o := .cells #[.int .i64 a0_0, .int .i64 a0_1, .int .i64 a0_2, .int .i64 a0_3, .int .i64 a0_4, .int .i64 a0_5, .int .i64 a0_6, .int .i64 a0_7, .bool a0_8, .slice (some ad175) l0_9.length c0_9, .slice A0_10 l0_10.length c0_10] 28 (0, 0)) (by (with_reducible repeat (first | refine blk_drewN ?_ _ | refine blk_drew ?_ | refine blk_alloc ?_ _)); exact BK158.out) hb)
                                                            have n1_ := Aside0.mk (blk_below (g := gb176) (o := .cells #[.int .i64 ((rd_T50 l0_9 x5_4).f0.f0), .int .i64 ((rd_T50 l0_9 x5_4).f0.f1), .int .i64 ((rd_T50 l0_9 x5_4).f1), .int .i64 ((rd_T50 l0_9 x5_4).f2)] 50 (0, 0)) (by (with_reducible repeat (first | refine blk_drewN ?_ _ | refine blk_drew ?_ | refine blk_alloc ?_ _)); exact BK176.out) hb)
                                                            have n2_ := Aside0.mk (below_step (by repeat (first | (with_reducible first | exact HB.out | apply below_alloc | apply pw_below_drewN | apply below_drew1 | refine below_set ?_ GE158.out | refine below_set ?_ GE176.out) | exact HB.out)) hb)
                                                            clear BK158
                                                            clear BK176
                                                            clear HB
                                                            have BK158 := n0_
                                                            have BK176 := n1_
                                                            have HB := n2_
                                                            clear n0_ n1_ n2_
                                                            (try clear hb)
                                                            (try clear hb2)
                                                            (try clear hk)
                                                            (try clear hi)
                                                            refine hK.out _ _ ⟨(blk_cell BK176.out 0).trans rfl, (blk_cell BK176.out 1).trans rfl, (blk_cell BK176.out 2).trans rfl, (blk_cell BK176.out 3).trans rfl⟩ (fun hHeld => ?_)
                                                            clear hK K
                                                            refine norm_ (a' := ?_) ?_ ?_
                                                            rotate_left
                                                            · show Act.put _ (some 143) _ = _
                                                              simp only [Act.put, List.setIfInBounds_toArray, List.set_cons_zero, List.set_cons_succ, i64_w, i32_w]
                                                              rfl
                                                            refine pure_ (i := 9) (N := some 144) (v := ?_) (a' := ?_) #[true, true, true, true, true, true, true, true, true, true, true, true, false, false, true, true, false, false, false, false] rfl rfl (any_of HT_.out (by kernel_rfl)) (fun _ _ _ h => h) (Or.inl ⟨by rfl, ?_⟩) ?_ ?_
                                                            rotate_left
                                                            · intro w'
                                                              go_simp
                                                              with_reducible rfl
                                                            rotate_left
                                                            · simp only [Act.put, List.setIfInBounds_toArray, List.set_cons_zero, List.set_cons_succ, i64_w, i32_w]
                                                              rfl
                                                            refine one_ (i := 12) (N := some 147) #[true, true, true, true, true, true, true, true, true, true, true, true, true, false, true, true, false, false, false, false] rfl rfl (one_of HT_.out (by kernel_rfl)) (by decide) (fun K hK => ?_)
                                                            refine goes_ Try.func27 (by kernel_rfl) rfl #[.int .i64 ((rd_T50 l0_9 x5_4).f1)] (by rfl) rfl rfl (by (try simp only [List.map_toArray, List.map_cons, List.map_nil]); first | done | rfl | (simp only [List.length_drop, List.length_take]; rfl)) ?_
                                                            with_reducible refine (contraref04_Num.calls kj63 ((rd_T50 l0_9 x5_4).f1) t182 _ A84.out).mono ?_
                                                            rintro e w92 ⟨rfl, hb⟩
                                                            refine ⟨_, rfl, ?_⟩
                                                            have n0_ := Aside0.mk (blk_below (g := gb158) (o := .cells #[.int .i64 a0_0, .int .i64 a0_1, .int .i64 a0_2, .int .i64 a0_3, .int .i64 a0_4, .int .i64 a0_5, .int .i64 a0_6, .int .i64 a0_7, .bool a0_8, .slice (some ad175) l0_9.length c0_9, .slice A0_10 l0_10.length c0_10] 28 (0, 0)) (by (with_reducible repeat (first | refine blk_drewN ?_ _ | refine blk_drew ?_ | refine blk_alloc ?_ _)); exact BK158.out) hb)
                                                            have n1_ := Aside0.mk (blk_below (g := gb176) (o := .cells #[.int .i64 ((rd_T50 l0_9 x5_4).f0.f0), .int .i64 ((rd_T50 l0_9 x5_4).f0.f1), .int .i64 ((rd_T50 l0_9 x5_4).f1), .int .i64 ((rd_T50 l0_9 x5_4).f2)] 50 (0, 0)) (by (with_reducible repeat (first | refine blk_drewN ?_ _ | refine blk_drew ?_ | refine blk_alloc ?_ _)); exact BK176.out) hb)
                                                            have n2_ := Aside0.mk (below_step (by repeat (first | (with_reducible first | exact HB.out | apply below_alloc | apply pw_below_drewN | apply below_drew1 | refine below_set ?_ GE158.out | refine below_set ?_ GE176.out) | exact HB.out)) hb)
                                                            clear BK158
                                                            clear BK176
                                                            clear HB
                                                            have BK158 := n0_
                                                            have BK176 := n1_
                                                            have HB := n2_
                                                            clear n0_ n1_ n2_
                                                            (try clear hb)
                                                            (try clear hb2)
                                                            (try clear hk)
                                                            (try clear hi)
                                                            refine hK.out _ _ ⟨(blk_cell BK176.out 0).trans rfl, (blk_cell BK176.out 1).trans rfl, (blk_cell BK176.out 2).trans rfl, (blk_cell BK176.out 3).trans rfl⟩ (fun hHeld => ?_)
                                                            clear hK K
                                                            refine norm_ (a' := ?_) ?_ ?_
                                                            rotate_left
                                                            · show Act.put _ (some 147) _ = _
                                                              simp only [Act.put, List.setIfInBounds_toArray, List.set_cons_zero, List.set_cons_succ, i64_w, i32_w]
                                                              rfl
                                                            refine pure_ (i := 13) (N := some 148) (v := ?_) (a' := ?_) #[true, true, true, true, true, true, true, true, true, true, true, true, true, true, true, true, false, false, false, false] rfl rfl (any_of HT_.out (by kernel_rfl)) (fun _ _ _ h => h) (Or.inl ⟨by rfl, ?_⟩) ?_ ?_
                                                            rotate_left
                                                            · intro w'
                                                              go_simp
                                                              with_reducible rfl
                                                            rotate_left
                                                            · simp only [Act.put, List.setIfInBounds_toArray, List.set_cons_zero, List.set_cons_succ, i64_w, i32_w]
                                                              rfl
                                                            refine one_ (i := 16) (N := some 151) #[true, true, true, true, true, true, true, true, true, true, true, true, true, true, true, true, true, false, false, false] rfl rfl (one_of HT_.out (by kernel_rfl)) (by decide) (fun K hK => ?_)
                                                            refine goes_ Try.func27 (by kernel_rfl) rfl #[.int .i64 ((rd_T50 l0_9 x5_4).f2)] (by rfl) rfl rfl (by (try simp only [List.map_toArray, List.map_cons, List.map_nil]); first | done | rfl | (simp only [List.length_drop, List.length_take]; rfl)) ?_
                                                            with_reducible refine (contraref04_Num.calls kj63 ((rd_T50 l0_9 x5_4).f2) t183 _ A86.out).mono ?_
                                                            rintro e w93 ⟨rfl, hb⟩
                                                            refine ⟨_, rfl, ?_⟩
                                                            have n0_ := Aside0.mk (blk_below (g := gb158) (o := .cells #[.int .i64 a0_0, .int .i64 a0_1, .int .i64 a0_2, .int .i64 a0_3, .int .i64 a0_4, .int .i64 a0_5, .int .i64 a0_6, .int .i64 a0_7, .bool a0_8, .slice (some ad175) l0_9.length c0_9, .slice A0_10 l0_10.length c0_10] 28 (0, 0)) (by (with_reducible repeat (first | refine blk_drewN ?_ _ | refine blk_drew ?_ | refine blk_alloc ?_ _)); exact BK158.out) hb)
                                                            have n1_ := Aside0.mk (blk_below (g := gb176) (o := .cells #[.int .i64 ((rd_T50 l0_9 x5_4).f0.f0), .int .i64 ((rd_T50 l0_9 x5_4).f0.f1), .int .i64 ((rd_T50 l0_9 x5_4).f1), .int .i64 ((rd_T50 l0_9 x5_4).f2)] 50 (0, 0)) (by (with_reducible repeat (first | refine blk_drewN ?_ _ | refine blk_drew ?_ | refine blk_alloc ?_ _)); exact BK176.out) hb)
                                                            have n2_ := Aside0.mk (below_step (by repeat (first | (with_reducible first | exact HB.out | apply below_alloc | apply pw_below_drewN | apply below_drew1 | refine below_set ?_ GE158.out | refine below_set ?_ GE176.out) | exact HB.out)) hb)
                                                            clear BK158
                                                            clear BK176
                                                            clear HB
                                                            have BK158 := n0_
                                                            have BK176 := n1_
                                                            have HB := n2_
                                                            clear n0_ n1_ n2_
                                                            (try clear hb)
                                                            (try clear hb2)
                                                            (try clear hk)
                                                            (try clear hi)
                                                            refine hK.out _ _ ⟨(blk_cell BK176.out 0).trans rfl, (blk_cell BK176.out 1).trans rfl, (blk_cell BK176.out 2).trans rfl, (blk_cell BK176.out 3).trans rfl⟩ (fun hHeld => ?_)
                                                            clear hK K
                                                            refine norm_ (a' := ?_) ?_ ?_
                                                            rotate_left
                                                            · show Act.put _ (some 151) _ = _
                                                              simp only [Act.put, List.setIfInBounds_toArray, List.set_cons_zero, List.set_cons_succ, i64_w, i32_w]
                                                              rfl
                                                            refine pure_ (i := 17) (N := some 152) (v := ?_) (a' := ?_) #[true, true, true, true, true, true, true, true, true, true, true, true, true, true, true, true, true, true, false, false] rfl rfl (any_of HT_.out (by kernel_rfl)) (fun _ _ _ h => h) (Or.inl ⟨by rfl, ?_⟩) ?_ ?_
                                                            rotate_left
                                                            · intro w'
                                                              go_simp
                                                              with_reducible rfl
                                                            rotate_left
                                                            · simp only [Act.put, List.setIfInBounds_toArray, List.set_cons_zero, List.set_cons_succ, i64_w, i32_w]
                                                              rfl
                                                            refine pure_ (i := 18) (N := some 153) (v := ?_) (a' := ?_) #[true, true, true, true, true, true, true, true, true, true, true, true, true, true, true, true, true, true, true, false] rfl rfl (any_of HT_.out (by kernel_rfl)) (fun _ _ _ h => h) (Or.inl ⟨by rfl, ?_⟩) ?_ ?_
                                                            rotate_left
                                                            · intro w'
                                                              go_simp
                                                              with_reducible rfl
                                                            rotate_left
                                                            · simp only [Act.put, List.setIfInBounds_toArray, List.set_cons_zero, List.set_cons_succ, i64_w, i32_w]
                                                              rfl
                                                            refine pure_ (i := 19) (N := some 4) (v := ?_) (a' := ?_) #[true, true, true, true, true, true, true, true, true, true, true, true, true, true, true, true, true, true, true, true] rfl rfl (any_of HT_.out (by kernel_rfl)) (fun _ _ _ h => h) (Or.inl ⟨by rfl, ?_⟩) ?_ ?_
                                                            rotate_left
                                                            · intro w'
                                                              go_simp
                                                              with_reducible rfl
                                                            rotate_left
                                                            · simp only [Act.put, List.setIfInBounds_toArray, List.set_cons_zero, List.set_cons_succ, i64_w, i32_w]
                                                              rfl
                                                            refine done_ (done_of HT_.out (by kernel_rfl)) ?_
                                                            try go_wp2
                                                            go_roundg kj63
                                                            case measure => have := HJ1.out; have := HJ7.out; have := HJ12.out; have := HK4.out; have := HJ63.out; omega
                                                            case rel => exact ⟨(x4_4 ++ (((t180 ++ t181) ++ t182) ++ t183)), (wrap64 (x5_4 + 1)), (by first | rfl | (simp; done) | (simp [*]; done)), (by first | rfl | (simp; done) | (simp [*]; done)), H', ⟨by have := HJ1.out; have := HJ7.out; have := HJ12.out; have := HK4.out; have := HJ63.out; omega⟩, ⟨by (with_reducible repeat (first | refine blk_drewN ?_ _ | refine blk_drew ?_ | refine blk_alloc ?_ _)); exact BK158.out⟩, ⟨by repeat (first | (with_reducible first | exact HB.out | apply below_alloc | apply pw_below_drewN | apply below_drew1 | refine below_set ?_ GE158.out | refine below_set ?_ GE176.out) | exact HB.out)⟩⟩
                                                          · rw [if_neg c88] at H
                                                            exact absurd H (by simp)
                                                        · rw [if_neg c87] at H
                                                          exact absurd H (by simp)
                                                      · rw [if_neg c85] at H
                                                        exact absurd H (by simp)
                                                    · rw [if_neg c83] at H
                                                      exact absurd H (by simp)
                                            · rw [if_neg c63] at H
                                              exact absurd H (by simp)
                                          · rw [if_neg c62] at H
                                            have c62b0 : decide (x5_4 < (l0_9.length : Int)) = false := decide_eq_false c62
                                            clear c62
                                            replace H := Option.bind_eq_some_iff.mp H
                                            obtain ⟨t184, A940, H⟩ := H
                                            replace H : (if x4_4.size + t184.size ≤ 9223372036854775807 then (contraref11_Write.l1 k4 (x4_4 ++ t184) 0 a0_0 a0_1 a0_2 a0_3 a0_4 a0_5 a0_6 a0_7 a0_8 l0_9 l0_10) else (none)) = some (r1, r2) := H
                                            have A94 := Aside0.mk A940
                                            clear A940
                                            by_cases c95 : x4_4.size + t184.size ≤ 9223372036854775807
                                            · rw [if_pos c95] at H
                                              have c95b0 := eq_true c95
                                              have c95b1 : decide (x4_4.size + t184.size ≤ 9223372036854775807) = true := decide_eq_true c95
                                              try have c95b2 : (9223372036854775807 < x4_4.size + t184.size) = False := eq_false (Nat.not_lt.2 c95)
                                              try have c95b3 := c95b2
                                              try simp only [ByteArray.size_append] at c95b3
                                              have H' := Aside0.mk H
                                              clear H
                                              have hcz96_0 : wr.cell? ⟨gb158, 0, none⟩ = some (.int .i64 a0_0) := (blk_cell BK158.out 0).trans rfl
                                              have hcz96_1 : wr.cell? ⟨gb158, 1, none⟩ = some (.int .i64 a0_1) := (blk_cell BK158.out 1).trans rfl
                                              have hcz96_2 : wr.cell? ⟨gb158, 2, none⟩ = some (.int .i64 a0_2) := (blk_cell BK158.out 2).trans rfl
                                              have hcz96_3 : wr.cell? ⟨gb158, 3, none⟩ = some (.int .i64 a0_3) := (blk_cell BK158.out 3).trans rfl
                                              have hcz96_4 : wr.cell? ⟨gb158, 4, none⟩ = some (.int .i64 a0_4) := (blk_cell BK158.out 4).trans rfl
                                              have hcz96_5 : wr.cell? ⟨gb158, 5, none⟩ = some (.int .i64 a0_5) := (blk_cell BK158.out 5).trans rfl
                                              have hcz96_6 : wr.cell? ⟨gb158, 6, none⟩ = some (.int .i64 a0_6) := (blk_cell BK158.out 6).trans rfl
                                              have hcz96_7 : wr.cell? ⟨gb158, 7, none⟩ = some (.int .i64 a0_7) := (blk_cell BK158.out 7).trans rfl
                                              have hcz96_8 : wr.cell? ⟨gb158, 8, none⟩ = some (.bool a0_8) := (blk_cell BK158.out 8).trans rfl
                                              have hcz96_9 : wr.cell? ⟨gb158, 9, none⟩ = some (.slice A0_9 l0_9.length c0_9) := (blk_cell BK158.out 9).trans rfl
                                              have hcz96_10 : wr.cell? ⟨gb158, 10, none⟩ = some (.slice A0_10 l0_10.length c0_10) := (blk_cell BK158.out 10).trans rfl
                                              have hfz96_0 := blk_frozen BK158.out 0
                                              have hfz96_1 := blk_frozen BK158.out 1
                                              have hfz96_2 := blk_frozen BK158.out 2
                                              have hfz96_3 := blk_frozen BK158.out 3
                                              have hfz96_4 := blk_frozen BK158.out 4
                                              have hfz96_5 := blk_frozen BK158.out 5
                                              have hfz96_6 := blk_frozen BK158.out 6
                                              have hfz96_7 := blk_frozen BK158.out 7
                                              have hfz96_8 := blk_frozen BK158.out 8
                                              have hfz96_9 := blk_frozen BK158.out 9
                                              have hfz96_10 := blk_frozen BK158.out 10
                                              go_wp2_with (first | ((with_reducible refine gate_callee (f := 27) rfl ?_); refine goesL_ (some 158) rfl rfl Try.func27 (by kernel_rfl) rfl #[.int .i64 (l0_10.length : Int)] rfl (by (try simp only [List.map_toArray, List.map_cons, List.map_nil]); first | done | rfl | (simp only [List.length_drop, List.length_take]; rfl)) ?_; (with_reducible refine (contraref04_Num.calls k4 (l0_10.length : Int) t184 _ A94.out).mono ?_); rintro e w97 ⟨rfl, hb⟩; refine ⟨_, rfl, ?_⟩; have n0_ := Aside0.mk (blk_below (g := gb158) (o := .cells #[.int .i64 a0_0, .int .i64 a0_1, .int .i64 a0_2, .int .i64 a0_3, .int .i64 a0_4, .int .i64 a0_5, .int .i64 a0_6, .int .i64 a0_7, .bool a0_8, .slice A0_9 l0_9.length c0_9, .slice A0_10 l0_10.length c0_10] 28 (0, 0)) (by (with_reducible repeat (first | refine blk_drewN ?_ _ | refine blk_drew ?_ | refine blk_alloc ?_ _)); exact BK158.out) hb); have n1_ := Aside0.mk (below_step (by repeat (first | (with_reducible first | exact HB.out | apply below_alloc | apply pw_below_drewN | apply below_drew1 | refine below_set ?_ GE158.out) | exact HB.out)) hb); clear BK158; clear HB; have BK158 := n0_; have HB := n1_; clear n0_ n1_; (try clear hb); (try clear hb2); (try clear hk); (try clear hi)))
                                              go_loopg [4, 7] k4 (fun kq v4 v7 w' => ∃ (x4_5 : ByteArray) (x7_5 : Int), v4 = .string x4_5 ∧ v7 = .int .i64 x7_5 ∧ Aside0 (contraref11_Write.l1 kq x4_5 x7_5 a0_0 a0_1 a0_2 a0_3 a0_4 a0_5 a0_6 a0_7 a0_8 l0_9 l0_10 = some (r1, r2)) ∧ Aside0 (kq ≤ k4) ∧ Aside0 (w'.heap[gb158]? = some (.cells #[.int .i64 a0_0, .int .i64 a0_1, .int .i64 a0_2, .int .i64 a0_3, .int .i64 a0_4, .int .i64 a0_5, .int .i64 a0_6, .int .i64 a0_7, .bool a0_8, (.slice A0_9 l0_9.length c0_9), (.slice A0_10 l0_10.length c0_10)] 28 (0, 0))) ∧ Aside0 (Below w.heap.size w w'))
                                              case atStart => exact ⟨(x4_4 ++ t184), (0), (by first | rfl | (simp; done) | (simp [*]; done)), (by first | rfl | (simp; done) | (simp [*]; done)), H', ⟨Nat.le_refl _⟩, ⟨by (with_reducible repeat (first | refine blk_drewN ?_ _ | refine blk_drew ?_ | refine blk_alloc ?_ _)); exact BK158.out⟩, ⟨by repeat (first | (with_reducible first | exact HB.out | apply below_alloc | apply pw_below_drewN | apply below_drew1 | refine below_set ?_ GE158.out) | exact HB.out)⟩⟩
                                              case round =>
                                                clear H'
                                                try clear p1
                                                try clear q1
                                                try clear hx1
                                                try clear c2
                                                try clear p2
                                                try clear c3
                                                try clear c4
                                                try clear c5
                                                try clear c6
                                                try clear p6
                                                try clear c7
                                                try clear c8
                                                try clear c9
                                                try clear p17
                                                try clear q17
                                                try clear hx17
                                                try clear c26
                                                try clear c27
                                                try clear c28
                                                try clear c36
                                                try clear c36b1
                                                try clear c36b2
                                                try clear c38
                                                try clear c38b0
                                                try clear c38b1
                                                try clear c38b2
                                                try clear c40
                                                try clear c40b0
                                                try clear c40b1
                                                try clear c40b2
                                                try clear c42
                                                try clear c42b0
                                                try clear c42b1
                                                try clear c42b2
                                                try clear c44
                                                try clear c44b0
                                                try clear c44b1
                                                try clear c44b2
                                                try clear c47
                                                try clear c47b0
                                                try clear c47b1
                                                try clear c47b2
                                                try clear c49
                                                try clear c49b0
                                                try clear c49b1
                                                try clear c49b2
                                                try clear c50
                                                try clear c50b0
                                                try clear c50b1
                                                try clear c50b2
                                                try clear c62
                                                try clear c62b0
                                                try clear c63
                                                try clear c63b0
                                                try clear p64
                                                try clear c67
                                                try clear c70
                                                try clear c72
                                                try clear c74
                                                try clear c76
                                                try clear c78
                                                try clear c80
                                                try clear c83
                                                try clear c83b0
                                                try clear c83b1
                                                try clear c83b2
                                                try clear c85
                                                try clear c85b0
                                                try clear c85b1
                                                try clear c85b2
                                                try clear c87
                                                try clear c87b0
                                                try clear c87b1
                                                try clear c87b2
                                                try clear c88
                                                try clear c88b0
                                                try clear c88b1
                                                try clear c88b2
                                                try clear c95
                                                try clear c95b0
                                                try clear c95b1
                                                try clear c95b2
                                                try clear hcz65_0
                                                try clear hcz65_1
                                                try clear hcz65_10
                                                try clear hcz65_2
                                                try clear hcz65_3
                                                try clear hcz65_4
                                                try clear hcz65_5
                                                try clear hcz65_6
                                                try clear hcz65_7
                                                try clear hcz65_8
                                                try clear hcz65_9
                                                try clear hcz68_0
                                                try clear hcz68_1
                                                try clear hcz68_2
                                                try clear hcz68_3
                                                try clear hcz75_0
                                                try clear hcz75_1
                                                try clear hcz75_2
                                                try clear hcz75_3
                                                try clear hcz77_0
                                                try clear hcz77_1
                                                try clear hcz77_2
                                                try clear hcz77_3
                                                try clear hcz79_0
                                                try clear hcz79_1
                                                try clear hcz79_2
                                                try clear hcz79_3
                                                try clear hcz96_0
                                                try clear hcz96_1
                                                try clear hcz96_10
                                                try clear hcz96_2
                                                try clear hcz96_3
                                                try clear hcz96_4
                                                try clear hcz96_5
                                                try clear hcz96_6
                                                try clear hcz96_7
                                                try clear hcz96_8
                                                try clear hcz96_9
                                                try clear hfz65_0
                                                try clear hfz65_1
                                                try clear hfz65_10
                                                try clear hfz65_2
                                                try clear hfz65_3
                                                try clear hfz65_4
                                                try clear hfz65_5
                                                try clear hfz65_6
                                                try clear hfz65_7
                                                try clear hfz65_8
                                                try clear hfz65_9
                                                try clear hfz68_0
                                                try clear hfz68_1
                                                try clear hfz68_2
                                                try clear hfz68_3
                                                try clear hfz75_0
                                                try clear hfz75_1
                                                try clear hfz75_2
                                                try clear hfz75_3
                                                try clear hfz77_0
                                                try clear hfz77_1
                                                try clear hfz77_2
                                                try clear hfz77_3
                                                try clear hfz79_0
                                                try clear hfz79_1
                                                try clear hfz79_2
                                                try clear hfz79_3
                                                try clear hfz96_0
                                                try clear hfz96_1
                                                try clear hfz96_10
                                                try clear hfz96_2
                                                try clear hfz96_3
                                                try clear hfz96_4
                                                try clear hfz96_5
                                                try clear hfz96_6
                                                try clear hfz96_7
                                                try clear hfz96_8
                                                try clear hfz96_9
                                                try clear hx175_0
                                                try clear hx175_1
                                                try clear hx175_2
                                                try clear hx175_3
                                                try clear p1
                                                try clear p17
                                                try clear p175
                                                try clear p2
                                                try clear q1
                                                try clear q17
                                                try clear q175
                                                obtain ⟨x4_5, x7_5, rfl, rfl, HA, HK5, BK158, HB⟩ := hrel
                                                cases gk with
                                                | zero => exact absurd HA.out (by simp [contraref11_Write.l1])
                                                | succ k5 =>
                                                  have H := HA.out
                                                  clear HA
                                                  simp only [contraref11_Write.l1] at H
                                                  by_cases c98 : x7_5 < (l0_10.length : Int)
                                                  · rw [if_pos c98] at H
                                                    have c98b0 : decide (x7_5 < (l0_10.length : Int)) = true := decide_eq_true c98
                                                    clear c98
                                                    by_cases c99 : 0 ≤ x7_5
                                                    · rw [if_pos c99] at H
                                                      have c99b0 : decide (0 ≤ x7_5) = true := decide_eq_true c99
                                                      clear c99
                                                      replace H := Option.bind_eq_some_iff.mp H
                                                      obtain ⟨t186, A1000, H⟩ := H
                                                      replace H : (if x4_5.size + t186.size ≤ 9223372036854775807 then (contraref11_Write.l1 k5 (x4_5 ++ t186) (wrap64 (x7_5 + 1)) a0_0 a0_1 a0_2 a0_3 a0_4 a0_5 a0_6 a0_7 a0_8 l0_9 l0_10) else (none)) = some (r1, r2) := H
                                                      have A100 := Aside0.mk A1000
                                                      clear A1000
                                                      by_cases c101 : x4_5.size + t186.size ≤ 9223372036854775807
                                                      · rw [if_pos c101] at H
                                                        have c101b0 := eq_true c101
                                                        have c101b1 : decide (x4_5.size + t186.size ≤ 9223372036854775807) = true := decide_eq_true c101
                                                        try have c101b2 : (9223372036854775807 < x4_5.size + t186.size) = False := eq_false (Nat.not_lt.2 c101)
                                                        try have c101b3 := c101b2
                                                        try simp only [ByteArray.size_append] at c101b3
                                                        have H' := Aside0.mk H
                                                        clear H
                                                        have hcz102_0 : wr.cell? ⟨gb158, 0, none⟩ = some (.int .i64 a0_0) := (blk_cell BK158.out 0).trans rfl
                                                        have hcz102_1 : wr.cell? ⟨gb158, 1, none⟩ = some (.int .i64 a0_1) := (blk_cell BK158.out 1).trans rfl
                                                        have hcz102_2 : wr.cell? ⟨gb158, 2, none⟩ = some (.int .i64 a0_2) := (blk_cell BK158.out 2).trans rfl
                                                        have hcz102_3 : wr.cell? ⟨gb158, 3, none⟩ = some (.int .i64 a0_3) := (blk_cell BK158.out 3).trans rfl
                                                        have hcz102_4 : wr.cell? ⟨gb158, 4, none⟩ = some (.int .i64 a0_4) := (blk_cell BK158.out 4).trans rfl
                                                        have hcz102_5 : wr.cell? ⟨gb158, 5, none⟩ = some (.int .i64 a0_5) := (blk_cell BK158.out 5).trans rfl
                                                        have hcz102_6 : wr.cell? ⟨gb158, 6, none⟩ = some (.int .i64 a0_6) := (blk_cell BK158.out 6).trans rfl
                                                        have hcz102_7 : wr.cell? ⟨gb158, 7, none⟩ = some (.int .i64 a0_7) := (blk_cell BK158.out 7).trans rfl
                                                        have hcz102_8 : wr.cell? ⟨gb158, 8, none⟩ = some (.bool a0_8) := (blk_cell BK158.out 8).trans rfl
                                                        have hcz102_9 : wr.cell? ⟨gb158, 9, none⟩ = some (.slice A0_9 l0_9.length c0_9) := (blk_cell BK158.out 9).trans rfl
                                                        have hcz102_10 : wr.cell? ⟨gb158, 10, none⟩ = some (.slice A0_10 l0_10.length c0_10) := (blk_cell BK158.out 10).trans rfl
                                                        have hfz102_0 := blk_frozen BK158.out 0
                                                        have hfz102_1 := blk_frozen BK158.out 1
                                                        have hfz102_2 := blk_frozen BK158.out 2
                                                        have hfz102_3 := blk_frozen BK158.out 3
                                                        have hfz102_4 := blk_frozen BK158.out 4
                                                        have hfz102_5 := blk_frozen BK158.out 5
                                                        have hfz102_6 := blk_frozen BK158.out 6
                                                        have hfz102_7 := blk_frozen BK158.out 7
                                                        have hfz102_8 := blk_frozen BK158.out 8
                                                        have hfz102_9 := blk_frozen BK158.out 9
                                                        have hfz102_10 := blk_frozen BK158.out 10
                                                        have p185 : 0 ≤ (x7_5 : Int) := of_decide_eq_true (by first | (with_reducible assumption) | assumption)
                                                        have q185 : x7_5 < (l0_10.length : Int) := of_decide_eq_true (by first | (with_reducible assumption) | assumption)
                                                        obtain ⟨ad185, e185, hx185_0⟩ := Kd.at_int HR0_10.out x7_5 p185 q185
                                                        cases e185
                                                        replace hx185_0 := (HB.out.cell (World.block_lt_of_cell? w _ hx185_0)).trans hx185_0
                                                        replace p185 := eq_true p185
                                                        replace q185 := eq_true q185
                                                        go_wp2_with (first | ((with_reducible refine gate_callee (f := 27) rfl ?_); refine goesL_ (some 173) rfl rfl Try.func27 (by kernel_rfl) rfl #[.int .i64 (rd l0_10 x7_5)] rfl (by (try simp only [List.map_toArray, List.map_cons, List.map_nil]); first | done | rfl | (simp only [List.length_drop, List.length_take]; rfl)) ?_; (with_reducible refine (contraref04_Num.calls k5 (rd l0_10 x7_5) t186 _ A100.out).mono ?_); rintro e w103 ⟨rfl, hb⟩; refine ⟨_, rfl, ?_⟩; have n0_ := Aside0.mk (blk_below (g := gb158) (o := .cells #[.int .i64 a0_0, .int .i64 a0_1, .int .i64 a0_2, .int .i64 a0_3, .int .i64 a0_4, .int .i64 a0_5, .int .i64 a0_6, .int .i64 a0_7, .bool a0_8, .slice A0_9 l0_9.length c0_9, .slice (some ad185) l0_10.length c0_10] 28 (0, 0)) (by (with_reducible repeat (first | refine blk_drewN ?_ _ | refine blk_drew ?_ | refine blk_alloc ?_ _)); exact BK158.out) hb); have n1_ := Aside0.mk (below_step (by repeat (first | (with_reducible first | exact HB.out | apply below_alloc | apply pw_below_drewN | apply below_drew1 | refine below_set ?_ GE158.out) | exact HB.out)) hb); clear BK158; clear HB; have BK158 := n0_; have HB := n1_; clear n0_ n1_; (try clear hb); (try clear hb2); (try clear hk); (try clear hi)))
                                                        go_roundg k5
                                                        case measure => have := HJ1.out; have := HJ7.out; have := HJ12.out; have := HK4.out; have := HK5.out; omega
                                                        case rel => exact ⟨(x4_5 ++ t186), (wrap64 (x7_5 + 1)), (by first | rfl | (simp; done) | (simp [*]; done)), (by first | rfl | (simp; done) | (simp [*]; done)), H', ⟨by have := HJ1.out; have := HJ7.out; have := HJ12.out; have := HK4.out; have := HK5.out; omega⟩, ⟨by (with_reducible repeat (first | refine blk_drewN ?_ _ | refine blk_drew ?_ | refine blk_alloc ?_ _)); exact BK158.out⟩, ⟨by repeat (first | (with_reducible first | exact HB.out | apply below_alloc | apply pw_below_drewN | apply below_drew1 | refine below_set ?_ GE158.out) | exact HB.out)⟩⟩
                                                      · rw [if_neg c101] at H
                                                        exact absurd H (by simp)
                                                    · rw [if_neg c99] at H
                                                      exact absurd H (by simp)
                                                  · rw [if_neg c98] at H
                                                    have c98b0 : decide (x7_5 < (l0_10.length : Int)) = false := decide_eq_false c98
                                                    clear c98
                                                    simp only [Option.some.injEq, Prod.mk.injEq] at H
                                                    obtain ⟨rfl, rfl⟩ := H
                                                    have hcz104_0 : wr.cell? ⟨gb158, 0, none⟩ = some (.int .i64 a0_0) := (blk_cell BK158.out 0).trans rfl
                                                    have hcz104_1 : wr.cell? ⟨gb158, 1, none⟩ = some (.int .i64 a0_1) := (blk_cell BK158.out 1).trans rfl
                                                    have hcz104_2 : wr.cell? ⟨gb158, 2, none⟩ = some (.int .i64 a0_2) := (blk_cell BK158.out 2).trans rfl
                                                    have hcz104_3 : wr.cell? ⟨gb158, 3, none⟩ = some (.int .i64 a0_3) := (blk_cell BK158.out 3).trans rfl
                                                    have hcz104_4 : wr.cell? ⟨gb158, 4, none⟩ = some (.int .i64 a0_4) := (blk_cell BK158.out 4).trans rfl
                                                    have hcz104_5 : wr.cell? ⟨gb158, 5, none⟩ = some (.int .i64 a0_5) := (blk_cell BK158.out 5).trans rfl
                                                    have hcz104_6 : wr.cell? ⟨gb158, 6, none⟩ = some (.int .i64 a0_6) := (blk_cell BK158.out 6).trans rfl
                                                    have hcz104_7 : wr.cell? ⟨gb158, 7, none⟩ = some (.int .i64 a0_7) := (blk_cell BK158.out 7).trans rfl
                                                    have hcz104_8 : wr.cell? ⟨gb158, 8, none⟩ = some (.bool a0_8) := (blk_cell BK158.out 8).trans rfl
                                                    have hcz104_9 : wr.cell? ⟨gb158, 9, none⟩ = some (.slice A0_9 l0_9.length c0_9) := (blk_cell BK158.out 9).trans rfl
                                                    have hcz104_10 : wr.cell? ⟨gb158, 10, none⟩ = some (.slice A0_10 l0_10.length c0_10) := (blk_cell BK158.out 10).trans rfl
                                                    have hfz104_0 := blk_frozen BK158.out 0
                                                    have hfz104_1 := blk_frozen BK158.out 1
                                                    have hfz104_2 := blk_frozen BK158.out 2
                                                    have hfz104_3 := blk_frozen BK158.out 3
                                                    have hfz104_4 := blk_frozen BK158.out 4
                                                    have hfz104_5 := blk_frozen BK158.out 5
                                                    have hfz104_6 := blk_frozen BK158.out 6
                                                    have hfz104_7 := blk_frozen BK158.out 7
                                                    have hfz104_8 := blk_frozen BK158.out 8
                                                    have hfz104_9 := blk_frozen BK158.out 9
                                                    have hfz104_10 := blk_frozen BK158.out 10
                                                    go_wp2
                                                    go_ret2
                                                    exact ⟨by first | rfl | (simp [errW_none, errW_some] <;> rfl) | (simp [*, errW_none, errW_some] <;> rfl), by repeat (first | (with_reducible first | exact HB.out | apply below_alloc | apply pw_below_drewN | apply below_drew1 | refine below_set ?_ GE158.out) | exact HB.out)⟩
                                            · rw [if_neg c95] at H
                                              exact absurd H (by simp)
                                    · rw [if_neg c50] at H
                                      exact absurd H (by simp)
                                  · rw [if_neg c49] at H
                                    exact absurd H (by simp)
                                · rw [if_neg c47] at H
                                  exact absurd H (by simp)
                              · rw [if_neg c44] at H
                                exact absurd H (by simp)
                            · rw [if_neg c42] at H
                              exact absurd H (by simp)
                          · rw [if_neg c40] at H
                            exact absurd H (by simp)
                        · rw [if_neg c38] at H
                          exact absurd H (by simp)
                      · rw [if_neg c36] at H
                        exact absurd H (by simp)
                    · rw [if_neg c34] at H
                      exact absurd H (by simp)

end Go.Proofs.Ytgmfafmefafiiaa.M
