/- Written by a program of this session (a turned copy of the printer: wip/turnprint.py): for each Go function a plain one, and the walk that shows that the code comes to just its answers. -/
import Derived.Test.YtbmnpjalekailaaMx0
import Derived.Test.YtbmnpjalekailaaMx1
import Derived.Test.YtbmnpjalekailaaMx2
import Derived.Test.YtbmnpjalekailaaMx4
import Derived.Test.YtbmnpjalekailaaMx5
import Derived.Test.YtbmnpjalekailaaMx8
import Derived.Test.YtbmnpjalekailaaMx11
import Derived.Test.YtbmnpjalekailaaMx12
namespace Go.Proofs.Ytbmnpjalekailaa.M
open Go.RowKit Go.Proofs.YtbmnpjalekailaaW.PrintWords Go.Proofs.YtbmnpjalekailaaW.PrintLast Go.Proofs.YtbmnpjalekailaaW.PrintMore
attribute [local go_sem] max2_int min2_int max_two min_two max_three min_three max_four min_four   -- for this text's walks alone
set_option linter.unusedVariables false
set_option linter.unusedSimpArgs false

attribute [local go_sem high] eqA25
/-! ### contralaw09_ItemActs: function 7 -/
def contralaw09_ItemActs.f (k : Nat) (a0_0 : Int) (a0_1 : Int) (a0_2 : Int) (a0_3 : Int) (a0_4 : Int) (a0_5 : Int) (a0_6 : Int) (a0_7 : Int) (a1 : Int) (a2 : Int) : Option (Bool) := (contralaw09_lives.f k).bind fun t439 => (if t439 = true then ((contraref09_Check.f k a0_0 a0_1 a0_2 a0_3 a0_4 a0_5 a0_6 a0_7).bind fun t440 => (if t440 = 0 then ((contralaw09_act.f k a0_0 a0_1 a0_2 a0_3 a0_4 a0_5 a0_6 a0_7 a1 a2).bind fun bt441 => ((contraref09_Act.f k a0_0 a0_1 a0_2 a0_3 a0_4 a0_5 a0_6 a0_7 a1 a2).bind fun bt451 => (if bt441.2.2.2.2.2.2.2.2 = bt451.2.2.2.2.2.2.2.2 then (if ((bt441.1 == bt451.1 && (bt441.2.1 == bt451.2.1)) && (bt441.2.2.1 == bt451.2.2.1 && (bt441.2.2.2.1 == bt451.2.2.2.1 && (bt441.2.2.2.2.1 == bt451.2.2.2.2.1 && (bt441.2.2.2.2.2.1 == bt451.2.2.2.2.2.1 && (bt441.2.2.2.2.2.2.1 == bt451.2.2.2.2.2.2.1 && (bt441.2.2.2.2.2.2.2.1 == bt451.2.2.2.2.2.2.2.1))))))) = true then ((item_Check.f k bt441.1 bt441.2.1 bt441.2.2.1 bt441.2.2.2.1 bt441.2.2.2.2.1 bt441.2.2.2.2.2.1 bt441.2.2.2.2.2.2.1 bt441.2.2.2.2.2.2.2.1).bind fun t461 => (if t461 = 0 then ((item_Rank.f k bt441.1 bt441.2.1 bt441.2.2.1 bt441.2.2.2.1 bt441.2.2.2.2.1 bt441.2.2.2.2.2.1 bt441.2.2.2.2.2.2.1 bt441.2.2.2.2.2.2.2.1).bind fun t462 => ((contraref09_Rank.f k bt441.1 bt441.2.1 bt441.2.2.1 bt441.2.2.2.1 bt441.2.2.2.2.1 bt441.2.2.2.2.2.1 bt441.2.2.2.2.2.2.1 bt441.2.2.2.2.2.2.2.1).bind fun t463 => (some (t462 == t463)))) else (some false))) else (some false)) else (some false)))) else (some true))) else (some false))
theorem contralaw09_ItemActs.mono : ∀ a0 a1 a2 a3 a4 a5 a6 a7 a8 a9 k, LeO (contralaw09_ItemActs.f k a0 a1 a2 a3 a4 a5 a6 a7 a8 a9) (contralaw09_ItemActs.f (k + 1) a0 a1 a2 a3 a4 a5 a6 a7 a8 a9) := by
  intro a0 a1 a2 a3 a4 a5 a6 a7 a8 a9 k
  unfold contralaw09_ItemActs.f
  repeat' first
      | (with_reducible exact contralaw09_act.mono _ _ _ _ _ _ _ _ _ _ _)
      | (with_reducible exact contralaw09_lives.mono _)
      | (with_reducible exact contraref09_Act.mono _ _ _ _ _ _ _ _ _ _ _)
      | (with_reducible exact contraref09_Check.mono _ _ _ _ _ _ _ _ _)
      | (with_reducible exact contraref09_Rank.mono _ _ _ _ _ _ _ _ _)
      | (with_reducible exact item_Check.mono _ _ _ _ _ _ _ _ _)
      | (with_reducible exact item_Rank.mono _ _ _ _ _ _ _ _ _)
      | (with_reducible exact LeO.refl _)
      | (with_reducible exact LeO.none _)
      | (with_reducible refine LeO.ite ?_ ?_)
      | (with_reducible refine LeO.bind ?_ (fun _ => ?_))
      | exact contralaw09_act.mono _ _ _ _ _ _ _ _ _ _ _
      | exact contralaw09_lives.mono _
      | exact contraref09_Act.mono _ _ _ _ _ _ _ _ _ _ _
      | exact contraref09_Check.mono _ _ _ _ _ _ _ _ _
      | exact contraref09_Rank.mono _ _ _ _ _ _ _ _ _
      | exact item_Check.mono _ _ _ _ _ _ _ _ _
      | exact item_Rank.mono _ _ _ _ _ _ _ _ _
      | exact LeO.none _
      | refine LeO.ite ?_ ?_
      | refine LeO.bind ?_ (fun _ => ?_)
def contralaw09_ItemActs.T7 : Bool × List (List Nat × List Nat) := (true, [([], []), ([], []), ([0, 1], [0, 1]), ([2], [2]), ([3], [3]), ([3], [3]), ([4, 5, 3], [3, 4, 5]), ([3, 6], [3, 6]), ([7, 3], [7]), ([8], [8]), ([9, 8, 8], [8, 9]), ([10, 8], [8, 10]), ([8, 11], [8, 11]), ([12, 10], [12]), ([13], [13]), ([14, 13, 13], [13, 14]), ([13], [13]), ([16, 15, 13], [13, 16]), ([15, 17, 13], [13, 15, 17]), ([13, 18], [13, 18]), ([19, 17, 0, 1, 2, 3, 4, 5, 6, 7, 8, 9, 10, 11, 12, 13, 14, 15, 16, 17, 18, 19], [19])])
def contralaw09_ItemActs.B7 : List Nat := [0, 0, 3, 7, 15, 15, 63, 127, 255, 511, 1023, 2047, 4095, 8191, 16383, 32767, 16383, 131071, 262143, 524287, 1048575]
theorem contralaw09_ItemActs.tab7 : rtab .any (opsOf Try.f7 7) = contralaw09_ItemActs.T7 := by kernel_rfl
theorem contralaw09_ItemActs.bits7 : waitsOk contralaw09_ItemActs.T7.2 contralaw09_ItemActs.B7 = true := by kernel_rfl
set_option maxHeartbeats 8000000 in
set_option maxRecDepth 100000 in
theorem contralaw09_ItemActs.calls (k : Nat) (a0_0 : Int) (a0_1 : Int) (a0_2 : Int) (a0_3 : Int) (a0_4 : Int) (a0_5 : Int) (a0_6 : Int) (a0_7 : Int) (a1 : Int) (a2 : Int) (r : Bool) (w : World) (h : contralaw09_ItemActs.f k a0_0 a0_1 a0_2 a0_3 a0_4 a0_5 a0_6 a0_7 a1 a2 = some r) (hT_ : r = true := by first | rfl | assumption) :
    Calls Try.prog 7 #[.agg #[.int .i64 a0_0, .int .i64 a0_1, .int .i64 a0_2, .int .i64 a0_3, .int .i64 a0_4, .int .i64 a0_5, .int .i64 a0_6, .int .i64 a0_7], .int .i64 a1, .int .i64 a2] w fun e w' => e = .returned (.bool r) ∧ Below w.heap.size w w' := by
  have hT := Aside0.mk hT_
  clear hT_
  have hu25 := Try.underlying25
  have HB := Aside0.mk (Below.refl w.heap.size w)
  have H : ((contralaw09_lives.f k).bind fun t439 => (if t439 = true then ((contraref09_Check.f k a0_0 a0_1 a0_2 a0_3 a0_4 a0_5 a0_6 a0_7).bind fun t440 => (if t440 = 0 then ((contralaw09_act.f k a0_0 a0_1 a0_2 a0_3 a0_4 a0_5 a0_6 a0_7 a1 a2).bind fun bt441 => ((contraref09_Act.f k a0_0 a0_1 a0_2 a0_3 a0_4 a0_5 a0_6 a0_7 a1 a2).bind fun bt451 => (if bt441.2.2.2.2.2.2.2.2 = bt451.2.2.2.2.2.2.2.2 then (if ((bt441.1 == bt451.1 && (bt441.2.1 == bt451.2.1)) && (bt441.2.2.1 == bt451.2.2.1 && (bt441.2.2.2.1 == bt451.2.2.2.1 && (bt441.2.2.2.2.1 == bt451.2.2.2.2.1 && (bt441.2.2.2.2.2.1 == bt451.2.2.2.2.2.1 && (bt441.2.2.2.2.2.2.1 == bt451.2.2.2.2.2.2.1 && (bt441.2.2.2.2.2.2.2.1 == bt451.2.2.2.2.2.2.2.1))))))) = true then ((item_Check.f k bt441.1 bt441.2.1 bt441.2.2.1 bt441.2.2.2.1 bt441.2.2.2.2.1 bt441.2.2.2.2.2.1 bt441.2.2.2.2.2.2.1 bt441.2.2.2.2.2.2.2.1).bind fun t461 => (if t461 = 0 then ((item_Rank.f k bt441.1 bt441.2.1 bt441.2.2.1 bt441.2.2.2.1 bt441.2.2.2.2.1 bt441.2.2.2.2.2.1 bt441.2.2.2.2.2.2.1 bt441.2.2.2.2.2.2.2.1).bind fun t462 => ((contraref09_Rank.f k bt441.1 bt441.2.1 bt441.2.2.1 bt441.2.2.2.1 bt441.2.2.2.2.1 bt441.2.2.2.2.2.1 bt441.2.2.2.2.2.2.1 bt441.2.2.2.2.2.2.2.1).bind fun t463 => (some (t462 == t463)))) else (some false))) else (some false)) else (some false)))) else (some true))) else (some false))) = some r := h
  clear h
  replace H := Option.bind_eq_some_iff.mp H
  obtain ⟨t439, A40, H⟩ := H
  replace H : (if t439 = true then ((contraref09_Check.f k a0_0 a0_1 a0_2 a0_3 a0_4 a0_5 a0_6 a0_7).bind fun t440 => (if t440 = 0 then ((contralaw09_act.f k a0_0 a0_1 a0_2 a0_3 a0_4 a0_5 a0_6 a0_7 a1 a2).bind fun bt441 => ((contraref09_Act.f k a0_0 a0_1 a0_2 a0_3 a0_4 a0_5 a0_6 a0_7 a1 a2).bind fun bt451 => (if bt441.2.2.2.2.2.2.2.2 = bt451.2.2.2.2.2.2.2.2 then (if ((bt441.1 == bt451.1 && (bt441.2.1 == bt451.2.1)) && (bt441.2.2.1 == bt451.2.2.1 && (bt441.2.2.2.1 == bt451.2.2.2.1 && (bt441.2.2.2.2.1 == bt451.2.2.2.2.1 && (bt441.2.2.2.2.2.1 == bt451.2.2.2.2.2.1 && (bt441.2.2.2.2.2.2.1 == bt451.2.2.2.2.2.2.1 && (bt441.2.2.2.2.2.2.2.1 == bt451.2.2.2.2.2.2.2.1))))))) = true then ((item_Check.f k bt441.1 bt441.2.1 bt441.2.2.1 bt441.2.2.2.1 bt441.2.2.2.2.1 bt441.2.2.2.2.2.1 bt441.2.2.2.2.2.2.1 bt441.2.2.2.2.2.2.2.1).bind fun t461 => (if t461 = 0 then ((item_Rank.f k bt441.1 bt441.2.1 bt441.2.2.1 bt441.2.2.2.1 bt441.2.2.2.2.1 bt441.2.2.2.2.2.1 bt441.2.2.2.2.2.2.1 bt441.2.2.2.2.2.2.2.1).bind fun t462 => ((contraref09_Rank.f k bt441.1 bt441.2.1 bt441.2.2.1 bt441.2.2.2.1 bt441.2.2.2.2.1 bt441.2.2.2.2.2.1 bt441.2.2.2.2.2.2.1 bt441.2.2.2.2.2.2.2.1).bind fun t463 => (some (t462 == t463)))) else (some false))) else (some false)) else (some false)))) else (some true))) else (some false)) = some r := H
  have A4 := Aside0.mk A40
  clear A40
  by_cases c5 : t439 = true
  · subst c5
    have H1 : ((contraref09_Check.f k a0_0 a0_1 a0_2 a0_3 a0_4 a0_5 a0_6 a0_7).bind fun t440 => (if t440 = 0 then ((contralaw09_act.f k a0_0 a0_1 a0_2 a0_3 a0_4 a0_5 a0_6 a0_7 a1 a2).bind fun bt441 => ((contraref09_Act.f k a0_0 a0_1 a0_2 a0_3 a0_4 a0_5 a0_6 a0_7 a1 a2).bind fun bt451 => (if bt441.2.2.2.2.2.2.2.2 = bt451.2.2.2.2.2.2.2.2 then (if ((bt441.1 == bt451.1 && (bt441.2.1 == bt451.2.1)) && (bt441.2.2.1 == bt451.2.2.1 && (bt441.2.2.2.1 == bt451.2.2.2.1 && (bt441.2.2.2.2.1 == bt451.2.2.2.2.1 && (bt441.2.2.2.2.2.1 == bt451.2.2.2.2.2.1 && (bt441.2.2.2.2.2.2.1 == bt451.2.2.2.2.2.2.1 && (bt441.2.2.2.2.2.2.2.1 == bt451.2.2.2.2.2.2.2.1))))))) = true then ((item_Check.f k bt441.1 bt441.2.1 bt441.2.2.1 bt441.2.2.2.1 bt441.2.2.2.2.1 bt441.2.2.2.2.2.1 bt441.2.2.2.2.2.2.1 bt441.2.2.2.2.2.2.2.1).bind fun t461 => (if t461 = 0 then ((item_Rank.f k bt441.1 bt441.2.1 bt441.2.2.1 bt441.2.2.2.1 bt441.2.2.2.2.1 bt441.2.2.2.2.2.1 bt441.2.2.2.2.2.2.1 bt441.2.2.2.2.2.2.2.1).bind fun t462 => ((contraref09_Rank.f k bt441.1 bt441.2.1 bt441.2.2.1 bt441.2.2.2.1 bt441.2.2.2.2.1 bt441.2.2.2.2.2.1 bt441.2.2.2.2.2.2.1 bt441.2.2.2.2.2.2.2.1).bind fun t463 => (some (t462 == t463)))) else (some false))) else (some false)) else (some false)))) else (some true))) = some r := by rw [if_pos rfl] at H; exact H
    clear H
    have H := H1
    clear H1
    replace H := Option.bind_eq_some_iff.mp H
    obtain ⟨t440, A60, H⟩ := H
    replace H : (if t440 = 0 then ((contralaw09_act.f k a0_0 a0_1 a0_2 a0_3 a0_4 a0_5 a0_6 a0_7 a1 a2).bind fun bt441 => ((contraref09_Act.f k a0_0 a0_1 a0_2 a0_3 a0_4 a0_5 a0_6 a0_7 a1 a2).bind fun bt451 => (if bt441.2.2.2.2.2.2.2.2 = bt451.2.2.2.2.2.2.2.2 then (if ((bt441.1 == bt451.1 && (bt441.2.1 == bt451.2.1)) && (bt441.2.2.1 == bt451.2.2.1 && (bt441.2.2.2.1 == bt451.2.2.2.1 && (bt441.2.2.2.2.1 == bt451.2.2.2.2.1 && (bt441.2.2.2.2.2.1 == bt451.2.2.2.2.2.1 && (bt441.2.2.2.2.2.2.1 == bt451.2.2.2.2.2.2.1 && (bt441.2.2.2.2.2.2.2.1 == bt451.2.2.2.2.2.2.2.1))))))) = true then ((item_Check.f k bt441.1 bt441.2.1 bt441.2.2.1 bt441.2.2.2.1 bt441.2.2.2.2.1 bt441.2.2.2.2.2.1 bt441.2.2.2.2.2.2.1 bt441.2.2.2.2.2.2.2.1).bind fun t461 => (if t461 = 0 then ((item_Rank.f k bt441.1 bt441.2.1 bt441.2.2.1 bt441.2.2.2.1 bt441.2.2.2.2.1 bt441.2.2.2.2.2.1 bt441.2.2.2.2.2.2.1 bt441.2.2.2.2.2.2.2.1).bind fun t462 => ((contraref09_Rank.f k bt441.1 bt441.2.1 bt441.2.2.1 bt441.2.2.2.1 bt441.2.2.2.2.1 bt441.2.2.2.2.2.1 bt441.2.2.2.2.2.2.1 bt441.2.2.2.2.2.2.2.1).bind fun t463 => (some (t462 == t463)))) else (some false))) else (some false)) else (some false)))) else (some true)) = some r := H
    have A6 := Aside0.mk A60
    clear A60
    by_cases c7 : t440 = 0
    · rw [if_pos c7] at H
      have c7b0 : (t440 == 0) = true := beq_iff_eq.mpr c7
      have c7b1 : (t440 != 0) = false := bne_eq_false_iff_eq.mpr c7
      clear c7
      replace H := Option.bind_eq_some_iff.mp H
      obtain ⟨⟨t441, t442, t443, t444, t445, t446, t447, t448, t449⟩, A80, H⟩ := H
      replace H : ((contraref09_Act.f k a0_0 a0_1 a0_2 a0_3 a0_4 a0_5 a0_6 a0_7 a1 a2).bind fun bt451 => (if t449 = bt451.2.2.2.2.2.2.2.2 then (if ((t441 == bt451.1 && (t442 == bt451.2.1)) && (t443 == bt451.2.2.1 && (t444 == bt451.2.2.2.1 && (t445 == bt451.2.2.2.2.1 && (t446 == bt451.2.2.2.2.2.1 && (t447 == bt451.2.2.2.2.2.2.1 && (t448 == bt451.2.2.2.2.2.2.2.1))))))) = true then ((item_Check.f k t441 t442 t443 t444 t445 t446 t447 t448).bind fun t461 => (if t461 = 0 then ((item_Rank.f k t441 t442 t443 t444 t445 t446 t447 t448).bind fun t462 => ((contraref09_Rank.f k t441 t442 t443 t444 t445 t446 t447 t448).bind fun t463 => (some (t462 == t463)))) else (some false))) else (some false)) else (some false))) = some r := H
      have A8 := Aside0.mk A80
      clear A80
      replace H := Option.bind_eq_some_iff.mp H
      obtain ⟨⟨t451, t452, t453, t454, t455, t456, t457, t458, t459⟩, A90, H⟩ := H
      replace H : (if t449 = t459 then (if ((t441 == t451 && (t442 == t452)) && (t443 == t453 && (t444 == t454 && (t445 == t455 && (t446 == t456 && (t447 == t457 && (t448 == t458))))))) = true then ((item_Check.f k t441 t442 t443 t444 t445 t446 t447 t448).bind fun t461 => (if t461 = 0 then ((item_Rank.f k t441 t442 t443 t444 t445 t446 t447 t448).bind fun t462 => ((contraref09_Rank.f k t441 t442 t443 t444 t445 t446 t447 t448).bind fun t463 => (some (t462 == t463)))) else (some false))) else (some false)) else (some false)) = some r := H
      have A9 := Aside0.mk A90
      clear A90
      by_cases c10 : t449 = t459
      · rw [if_pos c10] at H
        have c10b0 : (t449 == t459) = true := beq_iff_eq.mpr c10
        have c10b1 : (t449 != t459) = false := bne_eq_false_iff_eq.mpr c10
        clear c10
        by_cases c11 : ((t441 == t451 && (t442 == t452)) && (t443 == t453 && (t444 == t454 && (t445 == t455 && (t446 == t456 && (t447 == t457 && (t448 == t458))))))) = true
        · rw [if_pos c11] at H
          have c11b0 : ((t441 == t451 && (t442 == t452)) && (t443 == t453 && (t444 == t454 && (t445 == t455 && (t446 == t456 && (t447 == t457 && (t448 == t458))))))) = true := c11
          clear c11
          replace H := Option.bind_eq_some_iff.mp H
          obtain ⟨t461, A120, H⟩ := H
          replace H : (if t461 = 0 then ((item_Rank.f k t441 t442 t443 t444 t445 t446 t447 t448).bind fun t462 => ((contraref09_Rank.f k t441 t442 t443 t444 t445 t446 t447 t448).bind fun t463 => (some (t462 == t463)))) else (some false)) = some r := H
          have A12 := Aside0.mk A120
          clear A120
          by_cases c13 : t461 = 0
          · rw [if_pos c13] at H
            have c13b0 : (t461 == 0) = true := beq_iff_eq.mpr c13
            have c13b1 : (t461 != 0) = false := bne_eq_false_iff_eq.mpr c13
            clear c13
            replace H := Option.bind_eq_some_iff.mp H
            obtain ⟨t462, A140, H⟩ := H
            replace H : ((contraref09_Rank.f k t441 t442 t443 t444 t445 t446 t447 t448).bind fun t463 => (some (t462 == t463))) = some r := H
            have A14 := Aside0.mk A140
            clear A140
            replace H := Option.bind_eq_some_iff.mp H
            obtain ⟨t463, A150, H⟩ := H
            replace H : (some (t462 == t463)) = some r := H
            have A15 := Aside0.mk A150
            clear A150
            obtain rfl := Option.some.inj H
            go_enter Try.func7, Try.ntmps7
            try go_wp2_with (first | ((with_reducible refine gate_dst (N := 3) rfl ?_); refine box_event ?hg (N := 3) ?hd (cs := #[.int .i64 a0_0, .int .i64 a0_1, .int .i64 a0_2, .int .i64 a0_3, .int .i64 a0_4, .int .i64 a0_5, .int .i64 a0_6, .int .i64 a0_7]) (t := 25) ?hr ?_; (case hd => rfl); (case hg => rfl); (case hr => first | (go_simp; done) | (go_simp; rfl)); intro gb438 hg w16 hbox hb; have n0_ := Aside0.mk (below_step (by repeat (first | (with_reducible first | exact HB.out | apply below_alloc | apply pw_below_drewN | apply below_drew1) | exact HB.out)) hb); have n1_ := Aside0.mk (hbox); have n2_ := Aside0.mk ((by rw [hg]; exact (below_size (by repeat (first | (with_reducible first | exact HB.out | apply below_alloc | apply pw_below_drewN | apply below_drew1) | exact HB.out))) : w.heap.size ≤ gb438)); have n3_ := Aside0.mk ((by rw [hg]; exact (below_size (by repeat (first | (with_reducible first | exact HB.out | apply below_alloc | apply pw_below_drewN | apply below_drew1) | exact HB.out))) : w.heap.size ≤ gb438)); clear HB; have HB := n0_; have BK438 := n1_; have GW438 := n2_; have GE438 := n3_; clear n0_ n1_ n2_ n3_; clear hb hbox hg) | ((with_reducible refine gate_callee (f := 9) rfl ?_); refine goesL_ (some 11) rfl rfl Try.func9 (by kernel_rfl) rfl #[] rfl (by (try simp only [List.map_toArray, List.map_cons, List.map_nil]); first | done | rfl | (simp only [List.length_drop, List.length_take]; rfl)) ?_; (with_reducible refine (contralaw09_lives.calls k  true _ A4.out).mono ?_); rintro e w17 ⟨rfl, hb⟩; refine ⟨_, rfl, ?_⟩; have n0_ := Aside0.mk (blk_below (g := gb438) (o := .cells #[.int .i64 a0_0, .int .i64 a0_1, .int .i64 a0_2, .int .i64 a0_3, .int .i64 a0_4, .int .i64 a0_5, .int .i64 a0_6, .int .i64 a0_7] 25 (0, 0)) (by (with_reducible repeat (first | refine blk_drewN ?_ _ | refine blk_drew ?_ | refine blk_alloc ?_ _)); exact BK438.out) hb); have n1_ := Aside0.mk (below_step (by repeat (first | (with_reducible first | exact HB.out | apply below_alloc | apply pw_below_drewN | apply below_drew1 | refine below_set ?_ GE438.out) | exact HB.out)) hb); clear BK438; clear HB; have BK438 := n0_; have HB := n1_; clear n0_ n1_; (try clear hb); (try clear hb2); (try clear hk); (try clear hi); have hcz18_0 : w17.cell? ⟨gb438, 0, none⟩ = some (.int .i64 a0_0) := (blk_cell BK438.out 0).trans rfl; have hcz18_1 : w17.cell? ⟨gb438, 1, none⟩ = some (.int .i64 a0_1) := (blk_cell BK438.out 1).trans rfl; have hcz18_2 : w17.cell? ⟨gb438, 2, none⟩ = some (.int .i64 a0_2) := (blk_cell BK438.out 2).trans rfl; have hcz18_3 : w17.cell? ⟨gb438, 3, none⟩ = some (.int .i64 a0_3) := (blk_cell BK438.out 3).trans rfl; have hcz18_4 : w17.cell? ⟨gb438, 4, none⟩ = some (.int .i64 a0_4) := (blk_cell BK438.out 4).trans rfl; have hcz18_5 : w17.cell? ⟨gb438, 5, none⟩ = some (.int .i64 a0_5) := (blk_cell BK438.out 5).trans rfl; have hcz18_6 : w17.cell? ⟨gb438, 6, none⟩ = some (.int .i64 a0_6) := (blk_cell BK438.out 6).trans rfl; have hcz18_7 : w17.cell? ⟨gb438, 7, none⟩ = some (.int .i64 a0_7) := (blk_cell BK438.out 7).trans rfl; have hfz18_0 := blk_frozen BK438.out 0; have hfz18_1 := blk_frozen BK438.out 1; have hfz18_2 := blk_frozen BK438.out 2; have hfz18_3 := blk_frozen BK438.out 3; have hfz18_4 := blk_frozen BK438.out 4; have hfz18_5 := blk_frozen BK438.out 5; have hfz18_6 := blk_frozen BK438.out 6; have hfz18_7 := blk_frozen BK438.out 7) | ((with_reducible refine gate_callee (f := 11) rfl ?_); refine goesL_ (some 14) rfl rfl Try.func11 (by kernel_rfl) rfl #[.agg #[.int .i64 a0_0, .int .i64 a0_1, .int .i64 a0_2, .int .i64 a0_3, .int .i64 a0_4, .int .i64 a0_5, .int .i64 a0_6, .int .i64 a0_7]] rfl (by (try simp only [List.map_toArray, List.map_cons, List.map_nil]); first | done | rfl | (simp only [List.length_drop, List.length_take]; rfl)) ?_; (with_reducible refine (contraref09_Check.calls k a0_0 a0_1 a0_2 a0_3 a0_4 a0_5 a0_6 a0_7 t440 _ A6.out).mono ?_); rintro e w19 ⟨rfl, hb⟩; refine ⟨_, rfl, ?_⟩; have n0_ := Aside0.mk (blk_below (g := gb438) (o := .cells #[.int .i64 a0_0, .int .i64 a0_1, .int .i64 a0_2, .int .i64 a0_3, .int .i64 a0_4, .int .i64 a0_5, .int .i64 a0_6, .int .i64 a0_7] 25 (0, 0)) (by (with_reducible repeat (first | refine blk_drewN ?_ _ | refine blk_drew ?_ | refine blk_alloc ?_ _)); exact BK438.out) hb); have n1_ := Aside0.mk (below_step (by repeat (first | (with_reducible first | exact HB.out | apply below_alloc | apply pw_below_drewN | apply below_drew1 | refine below_set ?_ GE438.out) | exact HB.out)) hb); clear BK438; clear HB; have BK438 := n0_; have HB := n1_; clear n0_ n1_; (try clear hb); (try clear hb2); (try clear hk); (try clear hi); have hcz20_0 : w19.cell? ⟨gb438, 0, none⟩ = some (.int .i64 a0_0) := (blk_cell BK438.out 0).trans rfl; have hcz20_1 : w19.cell? ⟨gb438, 1, none⟩ = some (.int .i64 a0_1) := (blk_cell BK438.out 1).trans rfl; have hcz20_2 : w19.cell? ⟨gb438, 2, none⟩ = some (.int .i64 a0_2) := (blk_cell BK438.out 2).trans rfl; have hcz20_3 : w19.cell? ⟨gb438, 3, none⟩ = some (.int .i64 a0_3) := (blk_cell BK438.out 3).trans rfl; have hcz20_4 : w19.cell? ⟨gb438, 4, none⟩ = some (.int .i64 a0_4) := (blk_cell BK438.out 4).trans rfl; have hcz20_5 : w19.cell? ⟨gb438, 5, none⟩ = some (.int .i64 a0_5) := (blk_cell BK438.out 5).trans rfl; have hcz20_6 : w19.cell? ⟨gb438, 6, none⟩ = some (.int .i64 a0_6) := (blk_cell BK438.out 6).trans rfl; have hcz20_7 : w19.cell? ⟨gb438, 7, none⟩ = some (.int .i64 a0_7) := (blk_cell BK438.out 7).trans rfl; have hfz20_0 := blk_frozen BK438.out 0; have hfz20_1 := blk_frozen BK438.out 1; have hfz20_2 := blk_frozen BK438.out 2; have hfz20_3 := blk_frozen BK438.out 3; have hfz20_4 := blk_frozen BK438.out 4; have hfz20_5 := blk_frozen BK438.out 5; have hfz20_6 := blk_frozen BK438.out 6; have hfz20_7 := blk_frozen BK438.out 7) | ((with_reducible refine gate_callee (f := 23) rfl ?_); refine goesL_ (some 20) rfl rfl Try.func23 (by kernel_rfl) rfl #[.agg #[.int .i64 a0_0, .int .i64 a0_1, .int .i64 a0_2, .int .i64 a0_3, .int .i64 a0_4, .int .i64 a0_5, .int .i64 a0_6, .int .i64 a0_7], .int .i64 a1, .int .i64 a2] rfl (by (try simp only [List.map_toArray, List.map_cons, List.map_nil]); first | done | rfl | (simp only [List.length_drop, List.length_take]; rfl)) ?_; (with_reducible refine (contralaw09_act.calls k a0_0 a0_1 a0_2 a0_3 a0_4 a0_5 a0_6 a0_7 a1 a2 t441 t442 t443 t444 t445 t446 t447 t448 t449 _ A8.out).mono ?_); rintro e w21 ⟨rfl, hb⟩; refine ⟨_, rfl, ?_⟩; have n0_ := Aside0.mk (blk_below (g := gb438) (o := .cells #[.int .i64 a0_0, .int .i64 a0_1, .int .i64 a0_2, .int .i64 a0_3, .int .i64 a0_4, .int .i64 a0_5, .int .i64 a0_6, .int .i64 a0_7] 25 (0, 0)) (by (with_reducible repeat (first | refine blk_drewN ?_ _ | refine blk_drew ?_ | refine blk_alloc ?_ _)); exact BK438.out) hb); have n1_ := Aside0.mk (below_step (by repeat (first | (with_reducible first | exact HB.out | apply below_alloc | apply pw_below_drewN | apply below_drew1 | refine below_set ?_ GE438.out) | exact HB.out)) hb); clear BK438; clear HB; have BK438 := n0_; have HB := n1_; clear n0_ n1_; (try clear hb); (try clear hb2); (try clear hk); (try clear hi)) | ((with_reducible refine gate_dst (N := 7) rfl ?_); refine box_event ?hg (N := 7) ?hd (cs := #[.int .i64 0, .int .i64 0, .int .i64 0, .int .i64 0, .int .i64 0, .int .i64 0, .int .i64 0, .int .i64 0]) (t := 25) ?hr ?_; (case hd => rfl); (case hg => rfl); (case hr => first | (go_simp; done) | (go_simp; rfl)); intro gb450 hg w22 hbox hb; have n0_ := Aside0.mk (blk_below (g := gb438) (o := .cells #[.int .i64 a0_0, .int .i64 a0_1, .int .i64 a0_2, .int .i64 a0_3, .int .i64 a0_4, .int .i64 a0_5, .int .i64 a0_6, .int .i64 a0_7] 25 (0, 0)) (by (with_reducible repeat (first | refine blk_drewN ?_ _ | refine blk_drew ?_ | refine blk_alloc ?_ _)); exact BK438.out) hb); have n1_ := Aside0.mk (below_step (by repeat (first | (with_reducible first | exact HB.out | apply below_alloc | apply pw_below_drewN | apply below_drew1 | refine below_set ?_ GE438.out) | exact HB.out)) hb); have n2_ := Aside0.mk (hbox); have n3_ := Aside0.mk ((by rw [hg]; exact (below_size (by repeat (first | (with_reducible first | exact HB.out | apply below_alloc | apply pw_below_drewN | apply below_drew1 | refine below_set ?_ GE438.out) | exact HB.out))) : w.heap.size ≤ gb450)); have n4_ := Aside0.mk ((by rw [hg]; exact (below_size (by repeat (first | (with_reducible first | exact HB.out | apply below_alloc | apply pw_below_drewN | apply below_drew1 | refine below_set ?_ GE438.out) | exact HB.out))) : w.heap.size ≤ gb450)); have n5_ := Aside0.mk ((by rw [hg]; exact Nat.ne_of_lt (blk_lt (g := gb438) (o := .cells #[.int .i64 a0_0, .int .i64 a0_1, .int .i64 a0_2, .int .i64 a0_3, .int .i64 a0_4, .int .i64 a0_5, .int .i64 a0_6, .int .i64 a0_7] 25 (0, 0)) (by (with_reducible repeat (first | refine blk_drewN ?_ _ | refine blk_drew ?_ | refine blk_alloc ?_ _)); exact BK438.out)) : gb438 ≠ gb450)); have n6_ := Aside0.mk ((by rw [hg]; exact Nat.ne_of_gt (blk_lt (g := gb438) (o := .cells #[.int .i64 a0_0, .int .i64 a0_1, .int .i64 a0_2, .int .i64 a0_3, .int .i64 a0_4, .int .i64 a0_5, .int .i64 a0_6, .int .i64 a0_7] 25 (0, 0)) (by (with_reducible repeat (first | refine blk_drewN ?_ _ | refine blk_drew ?_ | refine blk_alloc ?_ _)); exact BK438.out)) : gb450 ≠ gb438)); clear BK438; clear HB; have BK438 := n0_; have HB := n1_; have BK450 := n2_; have GW450 := n3_; have GE450 := n4_; have NB438_450 := n5_; have NB450_438 := n6_; clear n0_ n1_ n2_ n3_ n4_ n5_ n6_; clear hb hbox hg; have hnb23 := NB450_438.out; have hnc23 := NB438_450.out; have hcz24_0 : w22.cell? ⟨gb450, 0, none⟩ = some (.int .i64 0) := (blk_cell BK450.out 0).trans rfl; have hcz24_1 : w22.cell? ⟨gb450, 1, none⟩ = some (.int .i64 0) := (blk_cell BK450.out 1).trans rfl; have hcz24_2 : w22.cell? ⟨gb450, 2, none⟩ = some (.int .i64 0) := (blk_cell BK450.out 2).trans rfl; have hcz24_3 : w22.cell? ⟨gb450, 3, none⟩ = some (.int .i64 0) := (blk_cell BK450.out 3).trans rfl; have hcz24_4 : w22.cell? ⟨gb450, 4, none⟩ = some (.int .i64 0) := (blk_cell BK450.out 4).trans rfl; have hcz24_5 : w22.cell? ⟨gb450, 5, none⟩ = some (.int .i64 0) := (blk_cell BK450.out 5).trans rfl; have hcz24_6 : w22.cell? ⟨gb450, 6, none⟩ = some (.int .i64 0) := (blk_cell BK450.out 6).trans rfl; have hcz24_7 : w22.cell? ⟨gb450, 7, none⟩ = some (.int .i64 0) := (blk_cell BK450.out 7).trans rfl; have hfz24_0 := blk_frozen BK450.out 0; have hfz24_1 := blk_frozen BK450.out 1; have hfz24_2 := blk_frozen BK450.out 2; have hfz24_3 := blk_frozen BK450.out 3; have hfz24_4 := blk_frozen BK450.out 4; have hfz24_5 := blk_frozen BK450.out 5; have hfz24_6 := blk_frozen BK450.out 6; have hfz24_7 := blk_frozen BK450.out 7; have hcz25_0 : w22.cell? ⟨gb438, 0, none⟩ = some (.int .i64 a0_0) := (blk_cell BK438.out 0).trans rfl; have hcz25_1 : w22.cell? ⟨gb438, 1, none⟩ = some (.int .i64 a0_1) := (blk_cell BK438.out 1).trans rfl; have hcz25_2 : w22.cell? ⟨gb438, 2, none⟩ = some (.int .i64 a0_2) := (blk_cell BK438.out 2).trans rfl; have hcz25_3 : w22.cell? ⟨gb438, 3, none⟩ = some (.int .i64 a0_3) := (blk_cell BK438.out 3).trans rfl; have hcz25_4 : w22.cell? ⟨gb438, 4, none⟩ = some (.int .i64 a0_4) := (blk_cell BK438.out 4).trans rfl; have hcz25_5 : w22.cell? ⟨gb438, 5, none⟩ = some (.int .i64 a0_5) := (blk_cell BK438.out 5).trans rfl; have hcz25_6 : w22.cell? ⟨gb438, 6, none⟩ = some (.int .i64 a0_6) := (blk_cell BK438.out 6).trans rfl; have hcz25_7 : w22.cell? ⟨gb438, 7, none⟩ = some (.int .i64 a0_7) := (blk_cell BK438.out 7).trans rfl; have hfz25_0 := blk_frozen BK438.out 0; have hfz25_1 := blk_frozen BK438.out 1; have hfz25_2 := blk_frozen BK438.out 2; have hfz25_3 := blk_frozen BK438.out 3; have hfz25_4 := blk_frozen BK438.out 4; have hfz25_5 := blk_frozen BK438.out 5; have hfz25_6 := blk_frozen BK438.out 6; have hfz25_7 := blk_frozen BK438.out 7) | ((with_reducible refine gate_callee (f := 24) rfl ?_); refine goesL_ (some 27) rfl rfl Try.func24 (by kernel_rfl) rfl #[.agg #[.int .i64 a0_0, .int .i64 a0_1, .int .i64 a0_2, .int .i64 a0_3, .int .i64 a0_4, .int .i64 a0_5, .int .i64 a0_6, .int .i64 a0_7], .int .i64 a1, .int .i64 a2] rfl (by (try simp only [List.map_toArray, List.map_cons, List.map_nil]); first | done | rfl | (simp only [List.length_drop, List.length_take]; rfl)) ?_; (with_reducible refine (contraref09_Act.calls k a0_0 a0_1 a0_2 a0_3 a0_4 a0_5 a0_6 a0_7 a1 a2 t451 t452 t453 t454 t455 t456 t457 t458 t459 _ A9.out).mono ?_); rintro e w26 ⟨rfl, hb⟩; refine ⟨_, rfl, ?_⟩; have n0_ := Aside0.mk (blk_below (g := gb438) (o := .cells #[.int .i64 a0_0, .int .i64 a0_1, .int .i64 a0_2, .int .i64 a0_3, .int .i64 a0_4, .int .i64 a0_5, .int .i64 a0_6, .int .i64 a0_7] 25 (0, 0)) (by (with_reducible repeat (first | refine blk_drewN ?_ _ | refine blk_drew ?_ | refine blk_alloc ?_ _)); refine blk_far ?_ NB438_450.out _; (with_reducible repeat (first | refine blk_drewN ?_ _ | refine blk_drew ?_ | refine blk_alloc ?_ _)); refine blk_far ?_ NB438_450.out _; (with_reducible repeat (first | refine blk_drewN ?_ _ | refine blk_drew ?_ | refine blk_alloc ?_ _)); refine blk_far ?_ NB438_450.out _; (with_reducible repeat (first | refine blk_drewN ?_ _ | refine blk_drew ?_ | refine blk_alloc ?_ _)); refine blk_far ?_ NB438_450.out _; (with_reducible repeat (first | refine blk_drewN ?_ _ | refine blk_drew ?_ | refine blk_alloc ?_ _)); refine blk_far ?_ NB438_450.out _; (with_reducible repeat (first | refine blk_drewN ?_ _ | refine blk_drew ?_ | refine blk_alloc ?_ _)); refine blk_far ?_ NB438_450.out _; (with_reducible repeat (first | refine blk_drewN ?_ _ | refine blk_drew ?_ | refine blk_alloc ?_ _)); refine blk_far ?_ NB438_450.out _; (with_reducible repeat (first | refine blk_drewN ?_ _ | refine blk_drew ?_ | refine blk_alloc ?_ _)); refine blk_far ?_ NB438_450.out _; (with_reducible repeat (first | refine blk_drewN ?_ _ | refine blk_drew ?_ | refine blk_alloc ?_ _)); exact BK438.out) hb); have n1_ := Aside0.mk (blk_below (g := gb450) (o := .cells #[.int .i64 t441, .int .i64 t442, .int .i64 t443, .int .i64 t444, .int .i64 t445, .int .i64 t446, .int .i64 t447, .int .i64 t448] 25 (0, 0)) (by (with_reducible repeat (first | refine blk_drewN ?_ _ | refine blk_drew ?_ | refine blk_alloc ?_ _)); refine blk_put (cs := #[.int .i64 t441, .int .i64 t442, .int .i64 t443, .int .i64 t444, .int .i64 t445, .int .i64 t446, .int .i64 t447, .int .i64 0]) ?_ 7 _ rfl; (with_reducible repeat (first | refine blk_drewN ?_ _ | refine blk_drew ?_ | refine blk_alloc ?_ _)); refine blk_put (cs := #[.int .i64 t441, .int .i64 t442, .int .i64 t443, .int .i64 t444, .int .i64 t445, .int .i64 t446, .int .i64 0, .int .i64 0]) ?_ 6 _ rfl; (with_reducible repeat (first | refine blk_drewN ?_ _ | refine blk_drew ?_ | refine blk_alloc ?_ _)); refine blk_put (cs := #[.int .i64 t441, .int .i64 t442, .int .i64 t443, .int .i64 t444, .int .i64 t445, .int .i64 0, .int .i64 0, .int .i64 0]) ?_ 5 _ rfl; (with_reducible repeat (first | refine blk_drewN ?_ _ | refine blk_drew ?_ | refine blk_alloc ?_ _)); refine blk_put (cs := #[.int .i64 t441, .int .i64 t442, .int .i64 t443, .int .i64 t444, .int .i64 0, .int .i64 0, .int .i64 0, .int .i64 0]) ?_ 4 _ rfl; (with_reducible repeat (first | refine blk_drewN ?_ _ | refine blk_drew ?_ | refine blk_alloc ?_ _)); refine blk_put (cs := #[.int .i64 t441, .int .i64 t442, .int .i64 t443, .int .i64 0, .int .i64 0, .int .i64 0, .int .i64 0, .int .i64 0]) ?_ 3 _ rfl; (with_reducible repeat (first | refine blk_drewN ?_ _ | refine blk_drew ?_ | refine blk_alloc ?_ _)); refine blk_put (cs := #[.int .i64 t441, .int .i64 t442, .int .i64 0, .int .i64 0, .int .i64 0, .int .i64 0, .int .i64 0, .int .i64 0]) ?_ 2 _ rfl; (with_reducible repeat (first | refine blk_drewN ?_ _ | refine blk_drew ?_ | refine blk_alloc ?_ _)); refine blk_put (cs := #[.int .i64 t441, .int .i64 0, .int .i64 0, .int .i64 0, .int .i64 0, .int .i64 0, .int .i64 0, .int .i64 0]) ?_ 1 _ rfl; (with_reducible repeat (first | refine blk_drewN ?_ _ | refine blk_drew ?_ | refine blk_alloc ?_ _)); refine blk_put (cs := #[.int .i64 0, .int .i64 0, .int .i64 0, .int .i64 0, .int .i64 0, .int .i64 0, .int .i64 0, .int .i64 0]) ?_ 0 _ rfl; (with_reducible repeat (first | refine blk_drewN ?_ _ | refine blk_drew ?_ | refine blk_alloc ?_ _)); exact BK450.out) hb); have n2_ := Aside0.mk (below_step (by repeat (first | (with_reducible first | exact HB.out | apply below_alloc | apply pw_below_drewN | apply below_drew1 | refine below_set ?_ GE438.out | refine below_set ?_ GE450.out) | exact HB.out)) hb); clear BK438; clear BK450; clear HB; have BK438 := n0_; have BK450 := n1_; have HB := n2_; clear n0_ n1_ n2_; (try clear hb); (try clear hb2); (try clear hk); (try clear hi)) | ((with_reducible refine gate_dst (N := 9) rfl ?_); refine box_event ?hg (N := 9) ?hd (cs := #[.int .i64 0, .int .i64 0, .int .i64 0, .int .i64 0, .int .i64 0, .int .i64 0, .int .i64 0, .int .i64 0]) (t := 25) ?hr ?_; (case hd => rfl); (case hg => rfl); (case hr => first | (go_simp; done) | (go_simp; rfl)); intro gb460 hg w27 hbox hb; have n0_ := Aside0.mk (blk_below (g := gb438) (o := .cells #[.int .i64 a0_0, .int .i64 a0_1, .int .i64 a0_2, .int .i64 a0_3, .int .i64 a0_4, .int .i64 a0_5, .int .i64 a0_6, .int .i64 a0_7] 25 (0, 0)) (by (with_reducible repeat (first | refine blk_drewN ?_ _ | refine blk_drew ?_ | refine blk_alloc ?_ _)); exact BK438.out) hb); have n1_ := Aside0.mk (blk_below (g := gb450) (o := .cells #[.int .i64 t441, .int .i64 t442, .int .i64 t443, .int .i64 t444, .int .i64 t445, .int .i64 t446, .int .i64 t447, .int .i64 t448] 25 (0, 0)) (by (with_reducible repeat (first | refine blk_drewN ?_ _ | refine blk_drew ?_ | refine blk_alloc ?_ _)); exact BK450.out) hb); have n2_ := Aside0.mk (below_step (by repeat (first | (with_reducible first | exact HB.out | apply below_alloc | apply pw_below_drewN | apply below_drew1 | refine below_set ?_ GE438.out | refine below_set ?_ GE450.out) | exact HB.out)) hb); have n3_ := Aside0.mk (hbox); have n4_ := Aside0.mk ((by rw [hg]; exact (below_size (by repeat (first | (with_reducible first | exact HB.out | apply below_alloc | apply pw_below_drewN | apply below_drew1 | refine below_set ?_ GE438.out | refine below_set ?_ GE450.out) | exact HB.out))) : w.heap.size ≤ gb460)); have n5_ := Aside0.mk ((by rw [hg]; exact (below_size (by repeat (first | (with_reducible first | exact HB.out | apply below_alloc | apply pw_below_drewN | apply below_drew1 | refine below_set ?_ GE438.out | refine below_set ?_ GE450.out) | exact HB.out))) : w.heap.size ≤ gb460)); have n6_ := Aside0.mk ((by rw [hg]; exact Nat.ne_of_lt (blk_lt (g := gb438) (o := .cells #[.int .i64 a0_0, .int .i64 a0_1, .int .i64 a0_2, .int .i64 a0_3, .int .i64 a0_4, .int .i64 a0_5, .int .i64 a0_6, .int .i64 a0_7] 25 (0, 0)) (by (with_reducible repeat (first | refine blk_drewN ?_ _ | refine blk_drew ?_ | refine blk_alloc ?_ _)); exact BK438.out)) : gb438 ≠ gb460)); have n7_ := Aside0.mk ((by rw [hg]; exact Nat.ne_of_gt (blk_lt (g := gb438) (o := .cells #[.int .i64 a0_0, .int .i64 a0_1, .int .i64 a0_2, .int .i64 a0_3, .int .i64 a0_4, .int .i64 a0_5, .int .i64 a0_6, .int .i64 a0_7] 25 (0, 0)) (by (with_reducible repeat (first | refine blk_drewN ?_ _ | refine blk_drew ?_ | refine blk_alloc ?_ _)); exact BK438.out)) : gb460 ≠ gb438)); have n8_ := Aside0.mk ((by rw [hg]; exact Nat.ne_of_lt (blk_lt (g := gb450) (o := .cells #[.int .i64 t441, .int .i64 t442, .int .i64 t443, .int .i64 t444, .int .i64 t445, .int .i64 t446, .int .i64 t447, .int .i64 t448] 25 (0, 0)) (by (with_reducible repeat (first | refine blk_drewN ?_ _ | refine blk_drew ?_ | refine blk_alloc ?_ _)); exact BK450.out)) : gb450 ≠ gb460)); have n9_ := Aside0.mk ((by rw [hg]; exact Nat.ne_of_gt (blk_lt (g := gb450) (o := .cells #[.int .i64 t441, .int .i64 t442, .int .i64 t443, .int .i64 t444, .int .i64 t445, .int .i64 t446, .int .i64 t447, .int .i64 t448] 25 (0, 0)) (by (with_reducible repeat (first | refine blk_drewN ?_ _ | refine blk_drew ?_ | refine blk_alloc ?_ _)); exact BK450.out)) : gb460 ≠ gb450)); clear BK438; clear BK450; clear HB; have BK438 := n0_; have BK450 := n1_; have HB := n2_; have BK460 := n3_; have GW460 := n4_; have GE460 := n5_; have NB438_460 := n6_; have NB460_438 := n7_; have NB450_460 := n8_; have NB460_450 := n9_; clear n0_ n1_ n2_ n3_ n4_ n5_ n6_ n7_ n8_ n9_; clear hb hbox hg; have hnb28 := NB460_438.out; have hnc28 := NB438_460.out; have hnb29 := NB460_450.out; have hnc29 := NB450_460.out; have hcz30_0 : w27.cell? ⟨gb460, 0, none⟩ = some (.int .i64 0) := (blk_cell BK460.out 0).trans rfl; have hcz30_1 : w27.cell? ⟨gb460, 1, none⟩ = some (.int .i64 0) := (blk_cell BK460.out 1).trans rfl; have hcz30_2 : w27.cell? ⟨gb460, 2, none⟩ = some (.int .i64 0) := (blk_cell BK460.out 2).trans rfl; have hcz30_3 : w27.cell? ⟨gb460, 3, none⟩ = some (.int .i64 0) := (blk_cell BK460.out 3).trans rfl; have hcz30_4 : w27.cell? ⟨gb460, 4, none⟩ = some (.int .i64 0) := (blk_cell BK460.out 4).trans rfl; have hcz30_5 : w27.cell? ⟨gb460, 5, none⟩ = some (.int .i64 0) := (blk_cell BK460.out 5).trans rfl; have hcz30_6 : w27.cell? ⟨gb460, 6, none⟩ = some (.int .i64 0) := (blk_cell BK460.out 6).trans rfl; have hcz30_7 : w27.cell? ⟨gb460, 7, none⟩ = some (.int .i64 0) := (blk_cell BK460.out 7).trans rfl; have hfz30_0 := blk_frozen BK460.out 0; have hfz30_1 := blk_frozen BK460.out 1; have hfz30_2 := blk_frozen BK460.out 2; have hfz30_3 := blk_frozen BK460.out 3; have hfz30_4 := blk_frozen BK460.out 4; have hfz30_5 := blk_frozen BK460.out 5; have hfz30_6 := blk_frozen BK460.out 6; have hfz30_7 := blk_frozen BK460.out 7))
            have n0_ : Aside0 (((((((((w27.setCell ⟨gb460, 0, none⟩ (.int .i64 t451)).setCell ⟨gb460, 1, none⟩ (.int .i64 t452)).setCell ⟨gb460, 2, none⟩ (.int .i64 t453)).setCell ⟨gb460, 3, none⟩ (.int .i64 t454)).setCell ⟨gb460, 4, none⟩ (.int .i64 t455)).setCell ⟨gb460, 5, none⟩ (.int .i64 t456)).setCell ⟨gb460, 6, none⟩ (.int .i64 t457)).setCell ⟨gb460, 7, none⟩ (.int .i64 t458)).heap[gb438]? = some (.cells #[.int .i64 a0_0, .int .i64 a0_1, .int .i64 a0_2, .int .i64 a0_3, .int .i64 a0_4, .int .i64 a0_5, .int .i64 a0_6, .int .i64 a0_7] 25 (0, 0))) := ⟨by (with_reducible repeat (first | refine blk_drewN ?_ _ | refine blk_drew ?_ | refine blk_alloc ?_ _)); refine blk_far ?_ NB438_460.out _; (with_reducible repeat (first | refine blk_drewN ?_ _ | refine blk_drew ?_ | refine blk_alloc ?_ _)); refine blk_far ?_ NB438_460.out _; (with_reducible repeat (first | refine blk_drewN ?_ _ | refine blk_drew ?_ | refine blk_alloc ?_ _)); refine blk_far ?_ NB438_460.out _; (with_reducible repeat (first | refine blk_drewN ?_ _ | refine blk_drew ?_ | refine blk_alloc ?_ _)); refine blk_far ?_ NB438_460.out _; (with_reducible repeat (first | refine blk_drewN ?_ _ | refine blk_drew ?_ | refine blk_alloc ?_ _)); refine blk_far ?_ NB438_460.out _; (with_reducible repeat (first | refine blk_drewN ?_ _ | refine blk_drew ?_ | refine blk_alloc ?_ _)); refine blk_far ?_ NB438_460.out _; (with_reducible repeat (first | refine blk_drewN ?_ _ | refine blk_drew ?_ | refine blk_alloc ?_ _)); refine blk_far ?_ NB438_460.out _; (with_reducible repeat (first | refine blk_drewN ?_ _ | refine blk_drew ?_ | refine blk_alloc ?_ _)); refine blk_far ?_ NB438_460.out _; (with_reducible repeat (first | refine blk_drewN ?_ _ | refine blk_drew ?_ | refine blk_alloc ?_ _)); exact BK438.out⟩
            have n1_ : Aside0 (((((((((w27.setCell ⟨gb460, 0, none⟩ (.int .i64 t451)).setCell ⟨gb460, 1, none⟩ (.int .i64 t452)).setCell ⟨gb460, 2, none⟩ (.int .i64 t453)).setCell ⟨gb460, 3, none⟩ (.int .i64 t454)).setCell ⟨gb460, 4, none⟩ (.int .i64 t455)).setCell ⟨gb460, 5, none⟩ (.int .i64 t456)).setCell ⟨gb460, 6, none⟩ (.int .i64 t457)).setCell ⟨gb460, 7, none⟩ (.int .i64 t458)).heap[gb450]? = some (.cells #[.int .i64 t441, .int .i64 t442, .int .i64 t443, .int .i64 t444, .int .i64 t445, .int .i64 t446, .int .i64 t447, .int .i64 t448] 25 (0, 0))) := ⟨by (with_reducible repeat (first | refine blk_drewN ?_ _ | refine blk_drew ?_ | refine blk_alloc ?_ _)); refine blk_far ?_ NB450_460.out _; (with_reducible repeat (first | refine blk_drewN ?_ _ | refine blk_drew ?_ | refine blk_alloc ?_ _)); refine blk_far ?_ NB450_460.out _; (with_reducible repeat (first | refine blk_drewN ?_ _ | refine blk_drew ?_ | refine blk_alloc ?_ _)); refine blk_far ?_ NB450_460.out _; (with_reducible repeat (first | refine blk_drewN ?_ _ | refine blk_drew ?_ | refine blk_alloc ?_ _)); refine blk_far ?_ NB450_460.out _; (with_reducible repeat (first | refine blk_drewN ?_ _ | refine blk_drew ?_ | refine blk_alloc ?_ _)); refine blk_far ?_ NB450_460.out _; (with_reducible repeat (first | refine blk_drewN ?_ _ | refine blk_drew ?_ | refine blk_alloc ?_ _)); refine blk_far ?_ NB450_460.out _; (with_reducible repeat (first | refine blk_drewN ?_ _ | refine blk_drew ?_ | refine blk_alloc ?_ _)); refine blk_far ?_ NB450_460.out _; (with_reducible repeat (first | refine blk_drewN ?_ _ | refine blk_drew ?_ | refine blk_alloc ?_ _)); refine blk_far ?_ NB450_460.out _; (with_reducible repeat (first | refine blk_drewN ?_ _ | refine blk_drew ?_ | refine blk_alloc ?_ _)); exact BK450.out⟩
            have n2_ : Aside0 (((((((((w27.setCell ⟨gb460, 0, none⟩ (.int .i64 t451)).setCell ⟨gb460, 1, none⟩ (.int .i64 t452)).setCell ⟨gb460, 2, none⟩ (.int .i64 t453)).setCell ⟨gb460, 3, none⟩ (.int .i64 t454)).setCell ⟨gb460, 4, none⟩ (.int .i64 t455)).setCell ⟨gb460, 5, none⟩ (.int .i64 t456)).setCell ⟨gb460, 6, none⟩ (.int .i64 t457)).setCell ⟨gb460, 7, none⟩ (.int .i64 t458)).heap[gb460]? = some (.cells #[.int .i64 t451, .int .i64 t452, .int .i64 t453, .int .i64 t454, .int .i64 t455, .int .i64 t456, .int .i64 t457, .int .i64 t458] 25 (0, 0))) := ⟨by (with_reducible repeat (first | refine blk_drewN ?_ _ | refine blk_drew ?_ | refine blk_alloc ?_ _)); refine blk_put (cs := #[.int .i64 t451, .int .i64 t452, .int .i64 t453, .int .i64 t454, .int .i64 t455, .int .i64 t456, .int .i64 t457, .int .i64 0]) ?_ 7 _ rfl; (with_reducible repeat (first | refine blk_drewN ?_ _ | refine blk_drew ?_ | refine blk_alloc ?_ _)); refine blk_put (cs := #[.int .i64 t451, .int .i64 t452, .int .i64 t453, .int .i64 t454, .int .i64 t455, .int .i64 t456, .int .i64 0, .int .i64 0]) ?_ 6 _ rfl; (with_reducible repeat (first | refine blk_drewN ?_ _ | refine blk_drew ?_ | refine blk_alloc ?_ _)); refine blk_put (cs := #[.int .i64 t451, .int .i64 t452, .int .i64 t453, .int .i64 t454, .int .i64 t455, .int .i64 0, .int .i64 0, .int .i64 0]) ?_ 5 _ rfl; (with_reducible repeat (first | refine blk_drewN ?_ _ | refine blk_drew ?_ | refine blk_alloc ?_ _)); refine blk_put (cs := #[.int .i64 t451, .int .i64 t452, .int .i64 t453, .int .i64 t454, .int .i64 0, .int .i64 0, .int .i64 0, .int .i64 0]) ?_ 4 _ rfl; (with_reducible repeat (first | refine blk_drewN ?_ _ | refine blk_drew ?_ | refine blk_alloc ?_ _)); refine blk_put (cs := #[.int .i64 t451, .int .i64 t452, .int .i64 t453, .int .i64 0, .int .i64 0, .int .i64 0, .int .i64 0, .int .i64 0]) ?_ 3 _ rfl; (with_reducible repeat (first | refine blk_drewN ?_ _ | refine blk_drew ?_ | refine blk_alloc ?_ _)); refine blk_put (cs := #[.int .i64 t451, .int .i64 t452, .int .i64 0, .int .i64 0, .int .i64 0, .int .i64 0, .int .i64 0, .int .i64 0]) ?_ 2 _ rfl; (with_reducible repeat (first | refine blk_drewN ?_ _ | refine blk_drew ?_ | refine blk_alloc ?_ _)); refine blk_put (cs := #[.int .i64 t451, .int .i64 0, .int .i64 0, .int .i64 0, .int .i64 0, .int .i64 0, .int .i64 0, .int .i64 0]) ?_ 1 _ rfl; (with_reducible repeat (first | refine blk_drewN ?_ _ | refine blk_drew ?_ | refine blk_alloc ?_ _)); refine blk_put (cs := #[.int .i64 0, .int .i64 0, .int .i64 0, .int .i64 0, .int .i64 0, .int .i64 0, .int .i64 0, .int .i64 0]) ?_ 0 _ rfl; (with_reducible repeat (first | refine blk_drewN ?_ _ | refine blk_drew ?_ | refine blk_alloc ?_ _)); exact BK460.out⟩
            have n3_ : Aside0 (Below w.heap.size w ((((((((w27.setCell ⟨gb460, 0, none⟩ (.int .i64 t451)).setCell ⟨gb460, 1, none⟩ (.int .i64 t452)).setCell ⟨gb460, 2, none⟩ (.int .i64 t453)).setCell ⟨gb460, 3, none⟩ (.int .i64 t454)).setCell ⟨gb460, 4, none⟩ (.int .i64 t455)).setCell ⟨gb460, 5, none⟩ (.int .i64 t456)).setCell ⟨gb460, 6, none⟩ (.int .i64 t457)).setCell ⟨gb460, 7, none⟩ (.int .i64 t458))) := ⟨by repeat (first | (with_reducible first | exact HB.out | apply below_alloc | apply pw_below_drewN | apply below_drew1 | refine below_set ?_ GE438.out | refine below_set ?_ GE450.out | refine below_set ?_ GE460.out) | exact HB.out)⟩
            (try clear BK438)
            (try clear BK450)
            (try clear BK460)
            (try clear HB)
            generalize ((((((((w27.setCell ⟨gb460, 0, none⟩ (.int .i64 t451)).setCell ⟨gb460, 1, none⟩ (.int .i64 t452)).setCell ⟨gb460, 2, none⟩ (.int .i64 t453)).setCell ⟨gb460, 3, none⟩ (.int .i64 t454)).setCell ⟨gb460, 4, none⟩ (.int .i64 t455)).setCell ⟨gb460, 5, none⟩ (.int .i64 t456)).setCell ⟨gb460, 6, none⟩ (.int .i64 t457)).setCell ⟨gb460, 7, none⟩ (.int .i64 t458)) = w31 at n0_ n1_ n2_ n3_ ⊢
            have BK438 := n0_
            have BK450 := n1_
            have BK460 := n2_
            have HB := n3_
            clear n0_ n1_ n2_ n3_
            have n0_ := Aside0.mk (blk_drew BK438.out)
            have n1_ := Aside0.mk (blk_drew BK450.out)
            have n2_ := Aside0.mk (blk_drew BK460.out)
            have n3_ := Aside0.mk (below_drew1 HB.out)
            clear BK438
            clear BK450
            clear BK460
            clear HB
            have BK438 := n0_
            have BK450 := n1_
            have BK460 := n2_
            have HB := n3_
            clear n0_ n1_ n2_ n3_
            refine start_ (n := 21) (S := fun w' => w'.cell? ⟨gb450, 0, none⟩ = some (.int .i64 t441) ∧ w'.cell? ⟨gb450, 1, none⟩ = some (.int .i64 t442) ∧ w'.cell? ⟨gb450, 2, none⟩ = some (.int .i64 t443) ∧ w'.cell? ⟨gb450, 3, none⟩ = some (.int .i64 t444) ∧ w'.cell? ⟨gb450, 4, none⟩ = some (.int .i64 t445) ∧ w'.cell? ⟨gb450, 5, none⟩ = some (.int .i64 t446) ∧ w'.cell? ⟨gb450, 6, none⟩ = some (.int .i64 t447) ∧ w'.cell? ⟨gb450, 7, none⟩ = some (.int .i64 t448) ∧ w'.cell? ⟨gb460, 0, none⟩ = some (.int .i64 t451) ∧ w'.cell? ⟨gb460, 1, none⟩ = some (.int .i64 t452) ∧ w'.cell? ⟨gb460, 2, none⟩ = some (.int .i64 t453) ∧ w'.cell? ⟨gb460, 3, none⟩ = some (.int .i64 t454) ∧ w'.cell? ⟨gb460, 4, none⟩ = some (.int .i64 t455) ∧ w'.cell? ⟨gb460, 5, none⟩ = some (.int .i64 t456) ∧ w'.cell? ⟨gb460, 6, none⟩ = some (.int .i64 t457) ∧ w'.cell? ⟨gb460, 7, none⟩ = some (.int .i64 t458)) (ds := []) #[false, false, false, false, false, false, false, false, false, false, false, false, false, false, false, false, false, false, false, false, false] (by kernel_rfl) rfl rfl ⟨(blk_cell BK450.out 0).trans rfl, (blk_cell BK450.out 1).trans rfl, (blk_cell BK450.out 2).trans rfl, (blk_cell BK450.out 3).trans rfl, (blk_cell BK450.out 4).trans rfl, (blk_cell BK450.out 5).trans rfl, (blk_cell BK450.out 6).trans rfl, (blk_cell BK450.out 7).trans rfl, (blk_cell BK460.out 0).trans rfl, (blk_cell BK460.out 1).trans rfl, (blk_cell BK460.out 2).trans rfl, (blk_cell BK460.out 3).trans rfl, (blk_cell BK460.out 4).trans rfl, (blk_cell BK460.out 5).trans rfl, (blk_cell BK460.out 6).trans rfl, (blk_cell BK460.out 7).trans rfl⟩ (fun hHeld => ?_); refine with_tabW contralaw09_ItemActs.tab7 contralaw09_ItemActs.bits7 (fun HT_ HW_ => ?_)
            generalize w31.drew = w32 at BK438 BK450 BK460 HB hHeld ⊢
            refine pure_ (i := 0) (N := some 30) (v := ?_) (a' := ?_) #[true, false, false, false, false, false, false, false, false, false, false, false, false, false, false, false, false, false, false, false, false] rfl rfl (any_of HT_.out (by kernel_rfl)) (fun _ _ _ h => h) (Or.inl ⟨by rfl, ?_⟩) ?_ ?_
            rotate_left
            · intro w'
              go_simp
              with_reducible rfl
            rotate_left
            · simp only [Act.put, List.setIfInBounds_toArray, List.set_cons_zero, List.set_cons_succ, i64_w, i32_w]
              rfl
            refine pure_ (i := 1) (N := some 31) (v := ?_) (a' := ?_) #[true, true, false, false, false, false, false, false, false, false, false, false, false, false, false, false, false, false, false, false, false] rfl rfl (any_of HT_.out (by kernel_rfl)) (fun _ _ _ h => h) (Or.inl ⟨by rfl, ?_⟩) ?_ ?_
            rotate_left
            · intro w'
              go_simp
              with_reducible rfl
            rotate_left
            · simp only [Act.put, List.setIfInBounds_toArray, List.set_cons_zero, List.set_cons_succ, i64_w, i32_w]
              rfl
            refine pure_ (i := 2) (N := some 32) (v := ?_) (a' := ?_) #[true, true, true, false, false, false, false, false, false, false, false, false, false, false, false, false, false, false, false, false, false] rfl rfl (any_of HT_.out (by kernel_rfl)) (fun _ _ _ h => h) (Or.inl ⟨by rfl, ?_⟩) ?_ ?_
            rotate_left
            · intro w'
              go_simp
              with_reducible rfl
            rotate_left
            · simp only [Act.put, List.setIfInBounds_toArray, List.set_cons_zero, List.set_cons_succ, i64_w, i32_w]
              rfl
            refine pure_ (i := 3) (N := some 33) (v := ?_) (a' := ?_) #[true, true, true, true, false, false, false, false, false, false, false, false, false, false, false, false, false, false, false, false, false] rfl rfl (any_of HT_.out (by kernel_rfl)) (fun _ _ _ h => h) (Or.inl ⟨by rfl, ?_⟩) ?_ ?_
            rotate_left
            · intro w'
              go_simp
              with_reducible rfl
            rotate_left
            · simp only [Act.put, List.setIfInBounds_toArray, List.set_cons_zero, List.set_cons_succ, i64_w, i32_w]
              rfl
            refine take_ (i := 4) (N := some 34) (v := ?_) (a' := ?_) #[true, true, true, true, true, false, false, false, false, false, false, false, false, false, false, false, false, false, false, false, false] rfl rfl (take_ofW HT_.out HW_.out (by kernel_rfl)) (fun _ _ _ h => h) (Or.inl ⟨by rfl, ?_⟩) hHeld ?_ ?_
            rotate_left
            · rintro w' ⟨s0, s1, s2, s3, s4, s5, s6, s7, s8, s9, s10, s11, s12, s13, s14, s15⟩
              go_simp
              with_reducible rfl
            rotate_left
            · simp only [Act.put, List.setIfInBounds_toArray, List.set_cons_zero, List.set_cons_succ, i64_w, i32_w]
              rfl
            refine take_ (i := 5) (N := some 35) (v := ?_) (a' := ?_) #[true, true, true, true, true, true, false, false, false, false, false, false, false, false, false, false, false, false, false, false, false] rfl rfl (take_ofW HT_.out HW_.out (by kernel_rfl)) (fun _ _ _ h => h) (Or.inl ⟨by rfl, ?_⟩) hHeld ?_ ?_
            rotate_left
            · rintro w' ⟨s0, s1, s2, s3, s4, s5, s6, s7, s8, s9, s10, s11, s12, s13, s14, s15⟩
              go_simp
              with_reducible rfl
            rotate_left
            · simp only [Act.put, List.setIfInBounds_toArray, List.set_cons_zero, List.set_cons_succ, i64_w, i32_w]
              rfl
            refine pure_ (i := 6) (N := some 36) (v := ?_) (a' := ?_) #[true, true, true, true, true, true, true, false, false, false, false, false, false, false, false, false, false, false, false, false, false] rfl rfl (any_of HT_.out (by kernel_rfl)) (fun _ _ _ h => h) (Or.inl ⟨by rfl, ?_⟩) ?_ ?_
            rotate_left
            · intro w'
              go_simp
              with_reducible rfl
            rotate_left
            · simp only [Act.put, List.setIfInBounds_toArray, List.set_cons_zero, List.set_cons_succ, i64_w, i32_w]
              rfl
            refine pure_ (i := 7) (N := some 37) (v := ?_) (a' := ?_) #[true, true, true, true, true, true, true, true, false, false, false, false, false, false, false, false, false, false, false, false, false] rfl rfl (any_of HT_.out (by kernel_rfl)) (fun _ _ _ h => h) (Or.inl ⟨by rfl, ?_⟩) ?_ ?_
            rotate_left
            · intro w'
              go_simp
              with_reducible rfl
            rotate_left
            · simp only [Act.put, List.setIfInBounds_toArray, List.set_cons_zero, List.set_cons_succ, i64_w, i32_w]
              rfl
            refine pure_ (i := 8) (N := some 38) (v := ?_) (a' := ?_) #[true, true, true, true, true, true, true, true, true, false, false, false, false, false, false, false, false, false, false, false, false] rfl rfl (any_of HT_.out (by kernel_rfl)) (fun _ _ _ h => h) (Or.inl ⟨by rfl, ?_⟩) ?_ ?_
            rotate_left
            · intro w'
              go_simp
              with_reducible rfl
            rotate_left
            · simp only [Act.put, List.setIfInBounds_toArray, List.set_cons_zero, List.set_cons_succ, i64_w, i32_w]
              rfl
            refine take_ (i := 9) (N := some 39) (v := ?_) (a' := ?_) #[true, true, true, true, true, true, true, true, true, true, false, false, false, false, false, false, false, false, false, false, false] rfl rfl (take_ofW HT_.out HW_.out (by kernel_rfl)) (fun _ _ _ h => h) (Or.inl ⟨by rfl, ?_⟩) hHeld ?_ ?_
            rotate_left
            · rintro w' ⟨s0, s1, s2, s3, s4, s5, s6, s7, s8, s9, s10, s11, s12, s13, s14, s15⟩
              go_simp
              with_reducible rfl
            rotate_left
            · simp only [Act.put, List.setIfInBounds_toArray, List.set_cons_zero, List.set_cons_succ, i64_w, i32_w]
              rfl
            refine one_ (i := 10) (N := some 40) #[true, true, true, true, true, true, true, true, true, true, true, false, false, false, false, false, false, false, false, false, false] rfl rfl (one_of HT_.out (by kernel_rfl)) (by decide) (fun K hK => ?_)
            refine goes_ Try.func10 (by kernel_rfl) rfl #[.agg #[.int .i64 t441, .int .i64 t442, .int .i64 t443, .int .i64 t444, .int .i64 t445, .int .i64 t446, .int .i64 t447, .int .i64 t448]] (by rfl) rfl rfl (by (try simp only [List.map_toArray, List.map_cons, List.map_nil]); first | done | rfl | (simp only [List.length_drop, List.length_take]; rfl)) ?_
            with_reducible refine (item_Check.calls k t441 t442 t443 t444 t445 t446 t447 t448 t461 _ A12.out).mono ?_
            rintro e w33 ⟨rfl, hb⟩
            refine ⟨_, rfl, ?_⟩
            have n0_ := Aside0.mk (blk_below (g := gb438) (o := .cells #[.int .i64 a0_0, .int .i64 a0_1, .int .i64 a0_2, .int .i64 a0_3, .int .i64 a0_4, .int .i64 a0_5, .int .i64 a0_6, .int .i64 a0_7] 25 (0, 0)) (by (with_reducible repeat (first | refine blk_drewN ?_ _ | refine blk_drew ?_ | refine blk_alloc ?_ _)); exact BK438.out) hb)
            have n1_ := Aside0.mk (blk_below (g := gb450) (o := .cells #[.int .i64 t441, .int .i64 t442, .int .i64 t443, .int .i64 t444, .int .i64 t445, .int .i64 t446, .int .i64 t447, .int .i64 t448] 25 (0, 0)) (by (with_reducible repeat (first | refine blk_drewN ?_ _ | refine blk_drew ?_ | refine blk_alloc ?_ _)); exact BK450.out) hb)
            have n2_ := Aside0.mk (blk_below (g := gb460) (o := .cells #[.int .i64 t451, .int .i64 t452, .int .i64 t453, .int .i64 t454, .int .i64 t455, .int .i64 t456, .int .i64 t457, .int .i64 t458] 25 (0, 0)) (by (with_reducible repeat (first | refine blk_drewN ?_ _ | refine blk_drew ?_ | refine blk_alloc ?_ _)); exact BK460.out) hb)
            have n3_ := Aside0.mk (below_step (by repeat (first | (with_reducible first | exact HB.out | apply below_alloc | apply pw_below_drewN | apply below_drew1 | refine below_set ?_ GE438.out | refine below_set ?_ GE450.out | refine below_set ?_ GE460.out) | exact HB.out)) hb)
            clear BK438
            clear BK450
            clear BK460
            clear HB
            have BK438 := n0_
            have BK450 := n1_
            have BK460 := n2_
            have HB := n3_
            clear n0_ n1_ n2_ n3_
            (try clear hb)
            (try clear hb2)
            (try clear hk)
            (try clear hi)
            refine hK.out _ _ ⟨(blk_cell BK450.out 0).trans rfl, (blk_cell BK450.out 1).trans rfl, (blk_cell BK450.out 2).trans rfl, (blk_cell BK450.out 3).trans rfl, (blk_cell BK450.out 4).trans rfl, (blk_cell BK450.out 5).trans rfl, (blk_cell BK450.out 6).trans rfl, (blk_cell BK450.out 7).trans rfl, (blk_cell BK460.out 0).trans rfl, (blk_cell BK460.out 1).trans rfl, (blk_cell BK460.out 2).trans rfl, (blk_cell BK460.out 3).trans rfl, (blk_cell BK460.out 4).trans rfl, (blk_cell BK460.out 5).trans rfl, (blk_cell BK460.out 6).trans rfl, (blk_cell BK460.out 7).trans rfl⟩ (fun hHeld => ?_)
            clear hK K
            refine norm_ (a' := ?_) ?_ ?_
            rotate_left
            · show Act.put _ (some 40) _ = _
              simp only [Act.put, List.setIfInBounds_toArray, List.set_cons_zero, List.set_cons_succ, i64_w, i32_w]
              rfl
            refine pure_ (i := 11) (N := some 41) (v := ?_) (a' := ?_) #[true, true, true, true, true, true, true, true, true, true, true, true, false, false, false, false, false, false, false, false, false] rfl rfl (any_of HT_.out (by kernel_rfl)) (fun _ _ _ h => h) (Or.inl ⟨by rfl, ?_⟩) ?_ ?_
            rotate_left
            · intro w'
              go_simp
              with_reducible rfl
            rotate_left
            · simp only [Act.put, List.setIfInBounds_toArray, List.set_cons_zero, List.set_cons_succ, i64_w, i32_w]
              rfl
            refine pure_ (i := 12) (N := some 42) (v := ?_) (a' := ?_) #[true, true, true, true, true, true, true, true, true, true, true, true, true, false, false, false, false, false, false, false, false] rfl rfl (any_of HT_.out (by kernel_rfl)) (fun _ _ _ h => h) (Or.inl ⟨by rfl, ?_⟩) ?_ ?_
            rotate_left
            · intro w'
              go_simp
              with_reducible rfl
            rotate_left
            · simp only [Act.put, List.setIfInBounds_toArray, List.set_cons_zero, List.set_cons_succ, i64_w, i32_w]
              rfl
            refine pure_ (i := 13) (N := some 43) (v := ?_) (a' := ?_) #[true, true, true, true, true, true, true, true, true, true, true, true, true, true, false, false, false, false, false, false, false] rfl rfl (any_of HT_.out (by kernel_rfl)) (fun _ _ _ h => h) (Or.inl ⟨by rfl, ?_⟩) ?_ ?_
            rotate_left
            · intro w'
              go_simp
              with_reducible rfl
            rotate_left
            · simp only [Act.put, List.setIfInBounds_toArray, List.set_cons_zero, List.set_cons_succ, i64_w, i32_w]
              rfl
            refine take_ (i := 14) (N := some 44) (v := ?_) (a' := ?_) #[true, true, true, true, true, true, true, true, true, true, true, true, true, true, true, false, false, false, false, false, false] rfl rfl (take_ofW HT_.out HW_.out (by kernel_rfl)) (fun _ _ _ h => h) (Or.inl ⟨by rfl, ?_⟩) hHeld ?_ ?_
            rotate_left
            · rintro w' ⟨s0, s1, s2, s3, s4, s5, s6, s7, s8, s9, s10, s11, s12, s13, s14, s15⟩
              go_simp
              with_reducible rfl
            rotate_left
            · simp only [Act.put, List.setIfInBounds_toArray, List.set_cons_zero, List.set_cons_succ, i64_w, i32_w]
              rfl
            refine take_ (i := 16) (N := some 46) (v := ?_) (a' := ?_) #[true, true, true, true, true, true, true, true, true, true, true, true, true, true, true, false, true, false, false, false, false] rfl rfl (take_ofW HT_.out HW_.out (by kernel_rfl)) (fun _ _ _ h => h) (Or.inl ⟨by rfl, ?_⟩) hHeld ?_ ?_
            rotate_left
            · rintro w' ⟨s0, s1, s2, s3, s4, s5, s6, s7, s8, s9, s10, s11, s12, s13, s14, s15⟩
              go_simp
              with_reducible rfl
            rotate_left
            · simp only [Act.put, List.setIfInBounds_toArray, List.set_cons_zero, List.set_cons_succ, i64_w, i32_w]
              rfl
            refine one_ (i := 15) (N := some 45) #[true, true, true, true, true, true, true, true, true, true, true, true, true, true, true, true, true, false, false, false, false] rfl rfl (one_of HT_.out (by kernel_rfl)) (by decide) (fun K hK => ?_)
            refine goes_ Try.func18 (by kernel_rfl) rfl #[.agg #[.int .i64 t441, .int .i64 t442, .int .i64 t443, .int .i64 t444, .int .i64 t445, .int .i64 t446, .int .i64 t447, .int .i64 t448]] (by rfl) rfl rfl (by (try simp only [List.map_toArray, List.map_cons, List.map_nil]); first | done | rfl | (simp only [List.length_drop, List.length_take]; rfl)) ?_
            with_reducible refine (item_Rank.calls k t441 t442 t443 t444 t445 t446 t447 t448 t462 _ A14.out).mono ?_
            rintro e w34 ⟨rfl, hb⟩
            refine ⟨_, rfl, ?_⟩
            have n0_ := Aside0.mk (blk_below (g := gb438) (o := .cells #[.int .i64 a0_0, .int .i64 a0_1, .int .i64 a0_2, .int .i64 a0_3, .int .i64 a0_4, .int .i64 a0_5, .int .i64 a0_6, .int .i64 a0_7] 25 (0, 0)) (by (with_reducible repeat (first | refine blk_drewN ?_ _ | refine blk_drew ?_ | refine blk_alloc ?_ _)); exact BK438.out) hb)
            have n1_ := Aside0.mk (blk_below (g := gb450) (o := .cells #[.int .i64 t441, .int .i64 t442, .int .i64 t443, .int .i64 t444, .int .i64 t445, .int .i64 t446, .int .i64 t447, .int .i64 t448] 25 (0, 0)) (by (with_reducible repeat (first | refine blk_drewN ?_ _ | refine blk_drew ?_ | refine blk_alloc ?_ _)); exact BK450.out) hb)
            have n2_ := Aside0.mk (blk_below (g := gb460) (o := .cells #[.int .i64 t451, .int .i64 t452, .int .i64 t453, .int .i64 t454, .int .i64 t455, .int .i64 t456, .int .i64 t457, .int .i64 t458] 25 (0, 0)) (by (with_reducible repeat (first | refine blk_drewN ?_ _ | refine blk_drew ?_ | refine blk_alloc ?_ _)); exact BK460.out) hb)
            have n3_ := Aside0.mk (below_step (by repeat (first | (with_reducible first | exact HB.out | apply below_alloc | apply pw_below_drewN | apply below_drew1 | refine below_set ?_ GE438.out | refine below_set ?_ GE450.out | refine below_set ?_ GE460.out) | exact HB.out)) hb)
            clear BK438
            clear BK450
            clear BK460
            clear HB
            have BK438 := n0_
            have BK450 := n1_
            have BK460 := n2_
            have HB := n3_
            clear n0_ n1_ n2_ n3_
            (try clear hb)
            (try clear hb2)
            (try clear hk)
            (try clear hi)
            refine hK.out _ _ ⟨(blk_cell BK450.out 0).trans rfl, (blk_cell BK450.out 1).trans rfl, (blk_cell BK450.out 2).trans rfl, (blk_cell BK450.out 3).trans rfl, (blk_cell BK450.out 4).trans rfl, (blk_cell BK450.out 5).trans rfl, (blk_cell BK450.out 6).trans rfl, (blk_cell BK450.out 7).trans rfl, (blk_cell BK460.out 0).trans rfl, (blk_cell BK460.out 1).trans rfl, (blk_cell BK460.out 2).trans rfl, (blk_cell BK460.out 3).trans rfl, (blk_cell BK460.out 4).trans rfl, (blk_cell BK460.out 5).trans rfl, (blk_cell BK460.out 6).trans rfl, (blk_cell BK460.out 7).trans rfl⟩ (fun hHeld => ?_)
            clear hK K
            refine norm_ (a' := ?_) ?_ ?_
            rotate_left
            · show Act.put _ (some 45) _ = _
              simp only [Act.put, List.setIfInBounds_toArray, List.set_cons_zero, List.set_cons_succ, i64_w, i32_w]
              rfl
            refine one_ (i := 17) (N := some 47) #[true, true, true, true, true, true, true, true, true, true, true, true, true, true, true, true, true, true, false, false, false] rfl rfl (one_of HT_.out (by kernel_rfl)) (by decide) (fun K hK => ?_)
            refine goes_ Try.func19 (by kernel_rfl) rfl #[.agg #[.int .i64 t441, .int .i64 t442, .int .i64 t443, .int .i64 t444, .int .i64 t445, .int .i64 t446, .int .i64 t447, .int .i64 t448]] (by rfl) rfl rfl (by (try simp only [List.map_toArray, List.map_cons, List.map_nil]); first | done | rfl | (simp only [List.length_drop, List.length_take]; rfl)) ?_
            with_reducible refine (contraref09_Rank.calls k t441 t442 t443 t444 t445 t446 t447 t448 t463 _ A15.out).mono ?_
            rintro e w35 ⟨rfl, hb⟩
            refine ⟨_, rfl, ?_⟩
            have n0_ := Aside0.mk (blk_below (g := gb438) (o := .cells #[.int .i64 a0_0, .int .i64 a0_1, .int .i64 a0_2, .int .i64 a0_3, .int .i64 a0_4, .int .i64 a0_5, .int .i64 a0_6, .int .i64 a0_7] 25 (0, 0)) (by (with_reducible repeat (first | refine blk_drewN ?_ _ | refine blk_drew ?_ | refine blk_alloc ?_ _)); exact BK438.out) hb)
            have n1_ := Aside0.mk (blk_below (g := gb450) (o := .cells #[.int .i64 t441, .int .i64 t442, .int .i64 t443, .int .i64 t444, .int .i64 t445, .int .i64 t446, .int .i64 t447, .int .i64 t448] 25 (0, 0)) (by (with_reducible repeat (first | refine blk_drewN ?_ _ | refine blk_drew ?_ | refine blk_alloc ?_ _)); exact BK450.out) hb)
            have n2_ := Aside0.mk (blk_below (g := gb460) (o := .cells #[.int .i64 t451, .int .i64 t452, .int .i64 t453, .int .i64 t454, .int .i64 t455, .int .i64 t456, .int .i64 t457, .int .i64 t458] 25 (0, 0)) (by (with_reducible repeat (first | refine blk_drewN ?_ _ | refine blk_drew ?_ | refine blk_alloc ?_ _)); exact BK460.out) hb)
            have n3_ := Aside0.mk (below_step (by repeat (first | (with_reducible first | exact HB.out | apply below_alloc | apply pw_below_drewN | apply below_drew1 | refine below_set ?_ GE438.out | refine below_set ?_ GE450.out | refine below_set ?_ GE460.out) | exact HB.out)) hb)
            clear BK438
            clear BK450
            clear BK460
            clear HB
            have BK438 := n0_
            have BK450 := n1_
            have BK460 := n2_
            have HB := n3_
            clear n0_ n1_ n2_ n3_
            (try clear hb)
            (try clear hb2)
            (try clear hk)
            (try clear hi)
            refine hK.out _ _ ⟨(blk_cell BK450.out 0).trans rfl, (blk_cell BK450.out 1).trans rfl, (blk_cell BK450.out 2).trans rfl, (blk_cell BK450.out 3).trans rfl, (blk_cell BK450.out 4).trans rfl, (blk_cell BK450.out 5).trans rfl, (blk_cell BK450.out 6).trans rfl, (blk_cell BK450.out 7).trans rfl, (blk_cell BK460.out 0).trans rfl, (blk_cell BK460.out 1).trans rfl, (blk_cell BK460.out 2).trans rfl, (blk_cell BK460.out 3).trans rfl, (blk_cell BK460.out 4).trans rfl, (blk_cell BK460.out 5).trans rfl, (blk_cell BK460.out 6).trans rfl, (blk_cell BK460.out 7).trans rfl⟩ (fun hHeld => ?_)
            clear hK K
            refine norm_ (a' := ?_) ?_ ?_
            rotate_left
            · show Act.put _ (some 47) _ = _
              simp only [Act.put, List.setIfInBounds_toArray, List.set_cons_zero, List.set_cons_succ, i64_w, i32_w]
              rfl
            refine pure_ (i := 18) (N := some 48) (v := ?_) (a' := ?_) #[true, true, true, true, true, true, true, true, true, true, true, true, true, true, true, true, true, true, true, false, false] rfl rfl (any_of HT_.out (by kernel_rfl)) (fun _ _ _ h => h) (Or.inl ⟨by rfl, ?_⟩) ?_ ?_
            rotate_left
            · intro w'
              go_simp
              with_reducible rfl
            rotate_left
            · simp only [Act.put, List.setIfInBounds_toArray, List.set_cons_zero, List.set_cons_succ, i64_w, i32_w]
              rfl
            refine pure_ (i := 19) (N := some 49) (v := ?_) (a' := ?_) #[true, true, true, true, true, true, true, true, true, true, true, true, true, true, true, true, true, true, true, true, false] rfl rfl (any_of HT_.out (by kernel_rfl)) (fun _ _ _ h => h) (Or.inl ⟨by rfl, ?_⟩) ?_ ?_
            rotate_left
            · intro w'
              go_simp
              with_reducible rfl
            rotate_left
            · simp only [Act.put, List.setIfInBounds_toArray, List.set_cons_zero, List.set_cons_succ, i64_w, i32_w]
              rfl
            refine pure_ (i := 20) (N := some 6) (v := ?_) (a' := ?_) #[true, true, true, true, true, true, true, true, true, true, true, true, true, true, true, true, true, true, true, true, true] rfl rfl (any_of HT_.out (by kernel_rfl)) (fun _ _ _ h => h) (Or.inl ⟨by rfl, ?_⟩) ?_ ?_
            rotate_left
            · intro w'
              go_simp
              with_reducible rfl
            rotate_left
            · simp only [Act.put, List.setIfInBounds_toArray, List.set_cons_zero, List.set_cons_succ, i64_w, i32_w]
              rfl
            refine done_ (done_of HT_.out (by kernel_rfl)) ?_
            try go_wp2
            go_ret
            exact ⟨by first | rfl | (simp [errW_none, errW_some] <;> rfl) | (simp [*, errW_none, errW_some] <;> rfl), by repeat (first | (with_reducible first | exact HB.out | apply below_alloc | apply pw_below_drewN | apply below_drew1 | refine below_set ?_ GE438.out | refine below_set ?_ GE450.out | refine below_set ?_ GE460.out) | exact HB.out)⟩
          · rw [if_neg c13] at H
            have c13b0 : (t461 == 0) = false := beq_eq_false_iff_ne.mpr c13
            have c13b1 : (t461 != 0) = true := bne_iff_ne.mpr c13
            exact absurd ((Option.some.inj H).trans hT.out) (by decide)
        · rw [if_neg c11] at H
          have c11b0 : ((t441 == t451 && (t442 == t452)) && (t443 == t453 && (t444 == t454 && (t445 == t455 && (t446 == t456 && (t447 == t457 && (t448 == t458))))))) = false := by simpa using c11
          clear c11
          exact absurd ((Option.some.inj H).trans hT.out) (by decide)
      · rw [if_neg c10] at H
        have c10b0 : (t449 == t459) = false := beq_eq_false_iff_ne.mpr c10
        have c10b1 : (t449 != t459) = true := bne_iff_ne.mpr c10
        exact absurd ((Option.some.inj H).trans hT.out) (by decide)
    · rw [if_neg c7] at H
      have c7b0 : (t440 == 0) = false := beq_eq_false_iff_ne.mpr c7
      have c7b1 : (t440 != 0) = true := bne_iff_ne.mpr c7
      obtain rfl := Option.some.inj H
      go_enter Try.func7, Try.ntmps7
      go_wp2_with (first | ((with_reducible refine gate_dst (N := 3) rfl ?_); refine box_event ?hg (N := 3) ?hd (cs := #[.int .i64 a0_0, .int .i64 a0_1, .int .i64 a0_2, .int .i64 a0_3, .int .i64 a0_4, .int .i64 a0_5, .int .i64 a0_6, .int .i64 a0_7]) (t := 25) ?hr ?_; (case hd => rfl); (case hg => rfl); (case hr => first | (go_simp; done) | (go_simp; rfl)); intro gb438 hg w36 hbox hb; have n0_ := Aside0.mk (below_step (by repeat (first | (with_reducible first | exact HB.out | apply below_alloc | apply pw_below_drewN | apply below_drew1) | exact HB.out)) hb); have n1_ := Aside0.mk (hbox); have n2_ := Aside0.mk ((by rw [hg]; exact (below_size (by repeat (first | (with_reducible first | exact HB.out | apply below_alloc | apply pw_below_drewN | apply below_drew1) | exact HB.out))) : w.heap.size ≤ gb438)); have n3_ := Aside0.mk ((by rw [hg]; exact (below_size (by repeat (first | (with_reducible first | exact HB.out | apply below_alloc | apply pw_below_drewN | apply below_drew1) | exact HB.out))) : w.heap.size ≤ gb438)); clear HB; have HB := n0_; have BK438 := n1_; have GW438 := n2_; have GE438 := n3_; clear n0_ n1_ n2_ n3_; clear hb hbox hg) | ((with_reducible refine gate_callee (f := 9) rfl ?_); refine goesL_ (some 11) rfl rfl Try.func9 (by kernel_rfl) rfl #[] rfl (by (try simp only [List.map_toArray, List.map_cons, List.map_nil]); first | done | rfl | (simp only [List.length_drop, List.length_take]; rfl)) ?_; (with_reducible refine (contralaw09_lives.calls k  true _ A4.out).mono ?_); rintro e w37 ⟨rfl, hb⟩; refine ⟨_, rfl, ?_⟩; have n0_ := Aside0.mk (blk_below (g := gb438) (o := .cells #[.int .i64 a0_0, .int .i64 a0_1, .int .i64 a0_2, .int .i64 a0_3, .int .i64 a0_4, .int .i64 a0_5, .int .i64 a0_6, .int .i64 a0_7] 25 (0, 0)) (by (with_reducible repeat (first | refine blk_drewN ?_ _ | refine blk_drew ?_ | refine blk_alloc ?_ _)); exact BK438.out) hb); have n1_ := Aside0.mk (below_step (by repeat (first | (with_reducible first | exact HB.out | apply below_alloc | apply pw_below_drewN | apply below_drew1 | refine below_set ?_ GE438.out) | exact HB.out)) hb); clear BK438; clear HB; have BK438 := n0_; have HB := n1_; clear n0_ n1_; (try clear hb); (try clear hb2); (try clear hk); (try clear hi); have hcz38_0 : w37.cell? ⟨gb438, 0, none⟩ = some (.int .i64 a0_0) := (blk_cell BK438.out 0).trans rfl; have hcz38_1 : w37.cell? ⟨gb438, 1, none⟩ = some (.int .i64 a0_1) := (blk_cell BK438.out 1).trans rfl; have hcz38_2 : w37.cell? ⟨gb438, 2, none⟩ = some (.int .i64 a0_2) := (blk_cell BK438.out 2).trans rfl; have hcz38_3 : w37.cell? ⟨gb438, 3, none⟩ = some (.int .i64 a0_3) := (blk_cell BK438.out 3).trans rfl; have hcz38_4 : w37.cell? ⟨gb438, 4, none⟩ = some (.int .i64 a0_4) := (blk_cell BK438.out 4).trans rfl; have hcz38_5 : w37.cell? ⟨gb438, 5, none⟩ = some (.int .i64 a0_5) := (blk_cell BK438.out 5).trans rfl; have hcz38_6 : w37.cell? ⟨gb438, 6, none⟩ = some (.int .i64 a0_6) := (blk_cell BK438.out 6).trans rfl; have hcz38_7 : w37.cell? ⟨gb438, 7, none⟩ = some (.int .i64 a0_7) := (blk_cell BK438.out 7).trans rfl; have hfz38_0 := blk_frozen BK438.out 0; have hfz38_1 := blk_frozen BK438.out 1; have hfz38_2 := blk_frozen BK438.out 2; have hfz38_3 := blk_frozen BK438.out 3; have hfz38_4 := blk_frozen BK438.out 4; have hfz38_5 := blk_frozen BK438.out 5; have hfz38_6 := blk_frozen BK438.out 6; have hfz38_7 := blk_frozen BK438.out 7) | ((with_reducible refine gate_callee (f := 11) rfl ?_); refine goesL_ (some 14) rfl rfl Try.func11 (by kernel_rfl) rfl #[.agg #[.int .i64 a0_0, .int .i64 a0_1, .int .i64 a0_2, .int .i64 a0_3, .int .i64 a0_4, .int .i64 a0_5, .int .i64 a0_6, .int .i64 a0_7]] rfl (by (try simp only [List.map_toArray, List.map_cons, List.map_nil]); first | done | rfl | (simp only [List.length_drop, List.length_take]; rfl)) ?_; (with_reducible refine (contraref09_Check.calls k a0_0 a0_1 a0_2 a0_3 a0_4 a0_5 a0_6 a0_7 t440 _ A6.out).mono ?_); rintro e w39 ⟨rfl, hb⟩; refine ⟨_, rfl, ?_⟩; have n0_ := Aside0.mk (blk_below (g := gb438) (o := .cells #[.int .i64 a0_0, .int .i64 a0_1, .int .i64 a0_2, .int .i64 a0_3, .int .i64 a0_4, .int .i64 a0_5, .int .i64 a0_6, .int .i64 a0_7] 25 (0, 0)) (by (with_reducible repeat (first | refine blk_drewN ?_ _ | refine blk_drew ?_ | refine blk_alloc ?_ _)); exact BK438.out) hb); have n1_ := Aside0.mk (below_step (by repeat (first | (with_reducible first | exact HB.out | apply below_alloc | apply pw_below_drewN | apply below_drew1 | refine below_set ?_ GE438.out) | exact HB.out)) hb); clear BK438; clear HB; have BK438 := n0_; have HB := n1_; clear n0_ n1_; (try clear hb); (try clear hb2); (try clear hk); (try clear hi)))
      go_ret
      exact ⟨by first | rfl | (simp [errW_none, errW_some] <;> rfl) | (simp [*, errW_none, errW_some] <;> rfl), by repeat (first | (with_reducible first | exact HB.out | apply below_alloc | apply pw_below_drewN | apply below_drew1 | refine below_set ?_ GE438.out) | exact HB.out)⟩
  · replace c5 := Bool.eq_false_iff.mpr c5
    subst c5
    have H1 : (some false) = some r := by rw [if_neg (show ¬ (false = true) by decide)] at H; exact H
    clear H
    have H := H1
    clear H1
    exact absurd ((Option.some.inj H).trans hT.out) (by decide)

-- NOT PRINTED: function 8 (contralaw09_ItemForward)

end Go.Proofs.Ytbmnpjalekailaa.M
