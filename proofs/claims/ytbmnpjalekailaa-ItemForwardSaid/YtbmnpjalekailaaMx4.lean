/- Written by a program of this session (a turned copy of the printer: wip/turnprint.py): for each Go function a plain one, and the walk that shows that the code comes to just its answers. -/
import Derived.Test.YtbmnpjalekailaaMx0
import Derived.Test.YtbmnpjalekailaaMx3
namespace Go.Proofs.Ytbmnpjalekailaa.M
open Go.RowKit Go.Proofs.YtbmnpjalekailaaW.PrintWords Go.Proofs.YtbmnpjalekailaaW.PrintLast Go.Proofs.YtbmnpjalekailaaW.PrintMore
attribute [local go_sem] max2_int min2_int max_two min_two max_three min_three max_four min_four   -- for this text's walks alone
set_option linter.unusedVariables false
set_option linter.unusedSimpArgs false

/-! ### contraref09_Check: function 11 -/
mutual
def contraref09_Check.j0 : Nat → Bool → Int → Int → Int → Int → Int → Int → Int → Int → Option (Int)
  | 0, _, _, _, _, _, _, _, _, _ => none
  | k + 1, x34, x205000, x205001, x205002, x205003, x205004, x205005, x205006, x205007 => if x34 = true then (some 1) else ((contraref09_in.f x205004 1 1125899906842624).bind fun t209 => (if t209 = true then ((contraref09_in.f x205005 0 3).bind fun t210 => (if t210 = true then ((contraref09_in.f x205006 1 5).bind fun t211 => (if t211 = true then ((contraref09_in.f x205007 0 1048576).bind fun t212 => (contraref09_Check.j1 k (!t212) x205000 x205001 x205002 x205003 x205004 x205005 x205006 x205007)) else (contraref09_Check.j1 k true x205000 x205001 x205002 x205003 x205004 x205005 x205006 x205007))) else (contraref09_Check.j1 k true x205000 x205001 x205002 x205003 x205004 x205005 x205006 x205007))) else (contraref09_Check.j1 k true x205000 x205001 x205002 x205003 x205004 x205005 x205006 x205007)))
def contraref09_Check.j1 : Nat → Bool → Int → Int → Int → Int → Int → Int → Int → Int → Option (Int)
  | 0, _, _, _, _, _, _, _, _, _ => none
  | k + 1, x56, x205000, x205001, x205002, x205003, x205004, x205005, x205006, x205007 => if x56 = true then (some 1) else (if x205007 = 0 then (if x205006 = 5 then (some 90) else (some 0)) else (if x205006 = 3 then (some 0) else (if x205006 = 5 then (some 0) else (some 90))))
end
def contraref09_Check.f (k : Nat) (a0_0 : Int) (a0_1 : Int) (a0_2 : Int) (a0_3 : Int) (a0_4 : Int) (a0_5 : Int) (a0_6 : Int) (a0_7 : Int) : Option (Int) := (contraref09_in.f a0_0 0 7).bind fun t205 => (if t205 = true then ((contraref09_in.f a0_2 0 7).bind fun t206 => (if t206 = true then (if a0_2 = a0_0 then (contraref09_Check.j0 k true a0_0 a0_1 a0_2 a0_3 a0_4 a0_5 a0_6 a0_7) else ((contraref09_in.f a0_1 1 1048576).bind fun t207 => (if t207 = true then ((contraref09_in.f a0_3 0 7).bind fun t208 => (contraref09_Check.j0 k (!t208) a0_0 a0_1 a0_2 a0_3 a0_4 a0_5 a0_6 a0_7)) else (contraref09_Check.j0 k true a0_0 a0_1 a0_2 a0_3 a0_4 a0_5 a0_6 a0_7)))) else (contraref09_Check.j0 k true a0_0 a0_1 a0_2 a0_3 a0_4 a0_5 a0_6 a0_7))) else (contraref09_Check.j0 k true a0_0 a0_1 a0_2 a0_3 a0_4 a0_5 a0_6 a0_7))
theorem contraref09_Check.mono_l : ∀ k, (∀ y0 y1 y2 y3 y4 y5 y6 y7 y8, LeO (contraref09_Check.j0 k y0 y1 y2 y3 y4 y5 y6 y7 y8) (contraref09_Check.j0 (k + 1) y0 y1 y2 y3 y4 y5 y6 y7 y8)) ∧ (∀ y0 y1 y2 y3 y4 y5 y6 y7 y8, LeO (contraref09_Check.j1 k y0 y1 y2 y3 y4 y5 y6 y7 y8) (contraref09_Check.j1 (k + 1) y0 y1 y2 y3 y4 y5 y6 y7 y8))
  | 0 => ⟨fun _ _ _ _ _ _ _ _ _ r h => by simp [contraref09_Check.j0] at h, fun _ _ _ _ _ _ _ _ _ r h => by simp [contraref09_Check.j1] at h⟩
  | k + 1 => by
    obtain ⟨ih0, ih1⟩ := contraref09_Check.mono_l k
    refine ⟨?_, ?_⟩
    · intro y0 y1 y2 y3 y4 y5 y6 y7 y8
      unfold contraref09_Check.j0
      repeat' first
      | (with_reducible exact ih0 _ _ _ _ _ _ _ _ _)
      | (with_reducible exact ih1 _ _ _ _ _ _ _ _ _)
      | (with_reducible exact LeO.refl _)
      | (with_reducible exact LeO.none _)
      | (with_reducible refine LeO.ite ?_ ?_)
      | (with_reducible refine LeO.bind ?_ (fun _ => ?_))
      | exact ih0 _ _ _ _ _ _ _ _ _
      | exact ih1 _ _ _ _ _ _ _ _ _
      | exact LeO.none _
      | refine LeO.ite ?_ ?_
      | refine LeO.bind ?_ (fun _ => ?_)
    · intro y0 y1 y2 y3 y4 y5 y6 y7 y8
      unfold contraref09_Check.j1
      repeat' first
      | (with_reducible exact ih0 _ _ _ _ _ _ _ _ _)
      | (with_reducible exact ih1 _ _ _ _ _ _ _ _ _)
      | (with_reducible exact LeO.refl _)
      | (with_reducible exact LeO.none _)
      | (with_reducible refine LeO.ite ?_ ?_)
      | (with_reducible refine LeO.bind ?_ (fun _ => ?_))
      | exact ih0 _ _ _ _ _ _ _ _ _
      | exact ih1 _ _ _ _ _ _ _ _ _
      | exact LeO.none _
      | refine LeO.ite ?_ ?_
      | refine LeO.bind ?_ (fun _ => ?_)
theorem contraref09_Check.mono : ∀ a0 a1 a2 a3 a4 a5 a6 a7 k, LeO (contraref09_Check.f k a0 a1 a2 a3 a4 a5 a6 a7) (contraref09_Check.f (k + 1) a0 a1 a2 a3 a4 a5 a6 a7) := by
  intro a0 a1 a2 a3 a4 a5 a6 a7 k
  obtain ⟨ih0, ih1⟩ := contraref09_Check.mono_l k
  unfold contraref09_Check.f
  repeat' first
      | (with_reducible exact ih0 _ _ _ _ _ _ _ _ _)
      | (with_reducible exact ih1 _ _ _ _ _ _ _ _ _)
      | (with_reducible exact LeO.refl _)
      | (with_reducible exact LeO.none _)
      | (with_reducible refine LeO.ite ?_ ?_)
      | (with_reducible refine LeO.bind ?_ (fun _ => ?_))
      | exact ih0 _ _ _ _ _ _ _ _ _
      | exact ih1 _ _ _ _ _ _ _ _ _
      | exact LeO.none _
      | refine LeO.ite ?_ ?_
      | refine LeO.bind ?_ (fun _ => ?_)
set_option maxHeartbeats 8000000 in
set_option maxRecDepth 100000 in
theorem contraref09_Check.calls (k : Nat) (a0_0 : Int) (a0_1 : Int) (a0_2 : Int) (a0_3 : Int) (a0_4 : Int) (a0_5 : Int) (a0_6 : Int) (a0_7 : Int) (r : Int) (w : World) (h : contraref09_Check.f k a0_0 a0_1 a0_2 a0_3 a0_4 a0_5 a0_6 a0_7 = some r) :
    Calls Try.prog 11 #[.agg #[.int .i64 a0_0, .int .i64 a0_1, .int .i64 a0_2, .int .i64 a0_3, .int .i64 a0_4, .int .i64 a0_5, .int .i64 a0_6, .int .i64 a0_7]] w fun e w' => e = .returned (.int .i64 r) ∧ Below w.heap.size w w' := by
  have hu25 := Try.underlying25
  have HB := Aside0.mk (Below.refl w.heap.size w)
  have H : ((contraref09_in.f a0_0 0 7).bind fun t205 => (if t205 = true then ((contraref09_in.f a0_2 0 7).bind fun t206 => (if t206 = true then (if a0_2 = a0_0 then (contraref09_Check.j0 k true a0_0 a0_1 a0_2 a0_3 a0_4 a0_5 a0_6 a0_7) else ((contraref09_in.f a0_1 1 1048576).bind fun t207 => (if t207 = true then ((contraref09_in.f a0_3 0 7).bind fun t208 => (contraref09_Check.j0 k (!t208) a0_0 a0_1 a0_2 a0_3 a0_4 a0_5 a0_6 a0_7)) else (contraref09_Check.j0 k true a0_0 a0_1 a0_2 a0_3 a0_4 a0_5 a0_6 a0_7)))) else (contraref09_Check.j0 k true a0_0 a0_1 a0_2 a0_3 a0_4 a0_5 a0_6 a0_7))) else (contraref09_Check.j0 k true a0_0 a0_1 a0_2 a0_3 a0_4 a0_5 a0_6 a0_7))) = some r := h
  clear h
  have HC2 := Aside0.mk H
  clear H
  go_enter Try.func11, Try.ntmps11
  go_upto_region 1 with (first | ((with_reducible refine gate_dst (N := 1) rfl ?_); refine box_event ?hg (N := 1) ?hd (cs := #[.int .i64 a0_0, .int .i64 a0_1, .int .i64 a0_2, .int .i64 a0_3, .int .i64 a0_4, .int .i64 a0_5, .int .i64 a0_6, .int .i64 a0_7]) (t := 25) ?hr ?_; (case hd => rfl); (case hg => rfl); (case hr => first | (go_simp; done) | (go_simp; rfl)); intro gb204 hg w3 hbox hb; have n0_ := Aside0.mk (below_step (by repeat (first | (with_reducible first | exact HB.out | apply below_alloc | apply pw_below_drewN | apply below_drew1) | exact HB.out)) hb); have n1_ := Aside0.mk (hbox); have n2_ := Aside0.mk ((by rw [hg]; exact (below_size (by repeat (first | (with_reducible first | exact HB.out | apply below_alloc | apply pw_below_drewN | apply below_drew1) | exact HB.out))) : w.heap.size ≤ gb204)); have n3_ := Aside0.mk ((by rw [hg]; exact (below_size (by repeat (first | (with_reducible first | exact HB.out | apply below_alloc | apply pw_below_drewN | apply below_drew1) | exact HB.out))) : w.heap.size ≤ gb204)); clear HB; have HB := n0_; have BK204 := n1_; have GW204 := n2_; have GE204 := n3_; clear n0_ n1_ n2_ n3_; clear hb hbox hg))
  (try simp only [Act.put, List.setIfInBounds_toArray, List.set_cons_zero, List.set_cons_succ])
  go_cut [34] (fun v34 wc => ∃ (kq : Nat) (x34_1 : Bool), v34 = .bool x34_1 ∧ Aside0 (contraref09_Check.j0 kq x34_1 a0_0 a0_1 a0_2 a0_3 a0_4 a0_5 a0_6 a0_7 = some r) ∧ Aside0 (kq ≤ k) ∧ Aside0 (wc.heap[gb204]? = some (.cells #[.int .i64 a0_0, .int .i64 a0_1, .int .i64 a0_2, .int .i64 a0_3, .int .i64 a0_4, .int .i64 a0_5, .int .i64 a0_6, .int .i64 a0_7] 25 (0, 0))) ∧ Aside0 (Below w.heap.size w wc))
  case first =>
    have H := HC2.out
    clear HC2
    replace H := Option.bind_eq_some_iff.mp H
    obtain ⟨t205, A40, H⟩ := H
    replace H : (if t205 = true then ((contraref09_in.f a0_2 0 7).bind fun t206 => (if t206 = true then (if a0_2 = a0_0 then (contraref09_Check.j0 k true a0_0 a0_1 a0_2 a0_3 a0_4 a0_5 a0_6 a0_7) else ((contraref09_in.f a0_1 1 1048576).bind fun t207 => (if t207 = true then ((contraref09_in.f a0_3 0 7).bind fun t208 => (contraref09_Check.j0 k (!t208) a0_0 a0_1 a0_2 a0_3 a0_4 a0_5 a0_6 a0_7)) else (contraref09_Check.j0 k true a0_0 a0_1 a0_2 a0_3 a0_4 a0_5 a0_6 a0_7)))) else (contraref09_Check.j0 k true a0_0 a0_1 a0_2 a0_3 a0_4 a0_5 a0_6 a0_7))) else (contraref09_Check.j0 k true a0_0 a0_1 a0_2 a0_3 a0_4 a0_5 a0_6 a0_7)) = some r := H
    have A4 := Aside0.mk A40
    clear A40
    by_cases c5 : t205 = true
    · subst c5
      have H1 : ((contraref09_in.f a0_2 0 7).bind fun t206 => (if t206 = true then (if a0_2 = a0_0 then (contraref09_Check.j0 k true a0_0 a0_1 a0_2 a0_3 a0_4 a0_5 a0_6 a0_7) else ((contraref09_in.f a0_1 1 1048576).bind fun t207 => (if t207 = true then ((contraref09_in.f a0_3 0 7).bind fun t208 => (contraref09_Check.j0 k (!t208) a0_0 a0_1 a0_2 a0_3 a0_4 a0_5 a0_6 a0_7)) else (contraref09_Check.j0 k true a0_0 a0_1 a0_2 a0_3 a0_4 a0_5 a0_6 a0_7)))) else (contraref09_Check.j0 k true a0_0 a0_1 a0_2 a0_3 a0_4 a0_5 a0_6 a0_7))) = some r := by rw [if_pos rfl] at H; exact H
      clear H
      have H := H1
      clear H1
      replace H := Option.bind_eq_some_iff.mp H
      obtain ⟨t206, A60, H⟩ := H
      replace H : (if t206 = true then (if a0_2 = a0_0 then (contraref09_Check.j0 k true a0_0 a0_1 a0_2 a0_3 a0_4 a0_5 a0_6 a0_7) else ((contraref09_in.f a0_1 1 1048576).bind fun t207 => (if t207 = true then ((contraref09_in.f a0_3 0 7).bind fun t208 => (contraref09_Check.j0 k (!t208) a0_0 a0_1 a0_2 a0_3 a0_4 a0_5 a0_6 a0_7)) else (contraref09_Check.j0 k true a0_0 a0_1 a0_2 a0_3 a0_4 a0_5 a0_6 a0_7)))) else (contraref09_Check.j0 k true a0_0 a0_1 a0_2 a0_3 a0_4 a0_5 a0_6 a0_7)) = some r := H
      have A6 := Aside0.mk A60
      clear A60
      by_cases c7 : t206 = true
      · subst c7
        have H1 : (if a0_2 = a0_0 then (contraref09_Check.j0 k true a0_0 a0_1 a0_2 a0_3 a0_4 a0_5 a0_6 a0_7) else ((contraref09_in.f a0_1 1 1048576).bind fun t207 => (if t207 = true then ((contraref09_in.f a0_3 0 7).bind fun t208 => (contraref09_Check.j0 k (!t208) a0_0 a0_1 a0_2 a0_3 a0_4 a0_5 a0_6 a0_7)) else (contraref09_Check.j0 k true a0_0 a0_1 a0_2 a0_3 a0_4 a0_5 a0_6 a0_7)))) = some r := by rw [if_pos rfl] at H; exact H
        clear H
        have H := H1
        clear H1
        by_cases c8 : a0_2 = a0_0
        · rw [if_pos c8] at H
          have c8b0 : (a0_2 == a0_0) = true := beq_iff_eq.mpr c8
          have c8b1 : (a0_2 != a0_0) = false := bne_eq_false_iff_eq.mpr c8
          clear c8
          (first | rw [c8b0] | (simp only [i64_w, i32_w]; rw [c8b0]) | skip)
          have H' := Aside0.mk H
          clear H
          have hcz9_0 : w3.cell? ⟨gb204, 0, none⟩ = some (.int .i64 a0_0) := (blk_cell BK204.out 0).trans rfl
          have hcz9_1 : w3.cell? ⟨gb204, 1, none⟩ = some (.int .i64 a0_1) := (blk_cell BK204.out 1).trans rfl
          have hcz9_2 : w3.cell? ⟨gb204, 2, none⟩ = some (.int .i64 a0_2) := (blk_cell BK204.out 2).trans rfl
          have hcz9_3 : w3.cell? ⟨gb204, 3, none⟩ = some (.int .i64 a0_3) := (blk_cell BK204.out 3).trans rfl
          have hcz9_4 : w3.cell? ⟨gb204, 4, none⟩ = some (.int .i64 a0_4) := (blk_cell BK204.out 4).trans rfl
          have hcz9_5 : w3.cell? ⟨gb204, 5, none⟩ = some (.int .i64 a0_5) := (blk_cell BK204.out 5).trans rfl
          have hcz9_6 : w3.cell? ⟨gb204, 6, none⟩ = some (.int .i64 a0_6) := (blk_cell BK204.out 6).trans rfl
          have hcz9_7 : w3.cell? ⟨gb204, 7, none⟩ = some (.int .i64 a0_7) := (blk_cell BK204.out 7).trans rfl
          have hfz9_0 := blk_frozen BK204.out 0
          have hfz9_1 := blk_frozen BK204.out 1
          have hfz9_2 := blk_frozen BK204.out 2
          have hfz9_3 := blk_frozen BK204.out 3
          have hfz9_4 := blk_frozen BK204.out 4
          have hfz9_5 := blk_frozen BK204.out 5
          have hfz9_6 := blk_frozen BK204.out 6
          have hfz9_7 := blk_frozen BK204.out 7
          go_wp2_with (first | ((with_reducible refine gate_callee (f := 25) rfl ?_); refine goesL_ (some 6) rfl rfl Try.func25 (by kernel_rfl) rfl #[.int .i64 a0_0, .int .i64 0, .int .i64 7] rfl (by (try simp only [List.map_toArray, List.map_cons, List.map_nil]); first | done | rfl | (simp only [List.length_drop, List.length_take]; rfl)) ?_; (with_reducible refine (contraref09_in.calls a0_0 0 7 true _ A4.out).mono ?_); rintro e w' ⟨rfl, ⟨nd, rfl⟩⟩; refine ⟨_, rfl, ?_⟩) | (go_at_call 25; (with_reducible refine (contraref09_in.calls a0_2 0 7 true _ A6.out).mono ?_); rintro e w' ⟨rfl, ⟨nd, rfl⟩⟩))
          go_meet
          case rel => exact ⟨_, (true), (by first | rfl | (simp; done) | (simp [*]; done)), H', ⟨by first | omega | exact Nat.le_refl _⟩, ⟨by (with_reducible repeat (first | refine blk_drewN ?_ _ | refine blk_drew ?_ | refine blk_alloc ?_ _)); exact BK204.out⟩, ⟨by repeat (first | (with_reducible first | exact HB.out | apply below_alloc | apply pw_below_drewN | apply below_drew1 | refine below_set ?_ GE204.out) | exact HB.out)⟩⟩
        · rw [if_neg c8] at H
          have c8b0 : (a0_2 == a0_0) = false := beq_eq_false_iff_ne.mpr c8
          have c8b1 : (a0_2 != a0_0) = true := bne_iff_ne.mpr c8
          (first | rw [c8b0] | (simp only [i64_w, i32_w]; rw [c8b0]) | skip)
          replace H := Option.bind_eq_some_iff.mp H
          obtain ⟨t207, A100, H⟩ := H
          replace H : (if t207 = true then ((contraref09_in.f a0_3 0 7).bind fun t208 => (contraref09_Check.j0 k (!t208) a0_0 a0_1 a0_2 a0_3 a0_4 a0_5 a0_6 a0_7)) else (contraref09_Check.j0 k true a0_0 a0_1 a0_2 a0_3 a0_4 a0_5 a0_6 a0_7)) = some r := H
          have A10 := Aside0.mk A100
          clear A100
          by_cases c11 : t207 = true
          · subst c11
            have H1 : ((contraref09_in.f a0_3 0 7).bind fun t208 => (contraref09_Check.j0 k (!t208) a0_0 a0_1 a0_2 a0_3 a0_4 a0_5 a0_6 a0_7)) = some r := by rw [if_pos rfl] at H; exact H
            clear H
            have H := H1
            clear H1
            replace H := Option.bind_eq_some_iff.mp H
            obtain ⟨t208, A120, H⟩ := H
            replace H : (contraref09_Check.j0 k (!t208) a0_0 a0_1 a0_2 a0_3 a0_4 a0_5 a0_6 a0_7) = some r := H
            have A12 := Aside0.mk A120
            clear A120
            have H' := Aside0.mk H
            clear H
            have hcz13_0 : w3.cell? ⟨gb204, 0, none⟩ = some (.int .i64 a0_0) := (blk_cell BK204.out 0).trans rfl
            have hcz13_1 : w3.cell? ⟨gb204, 1, none⟩ = some (.int .i64 a0_1) := (blk_cell BK204.out 1).trans rfl
            have hcz13_2 : w3.cell? ⟨gb204, 2, none⟩ = some (.int .i64 a0_2) := (blk_cell BK204.out 2).trans rfl
            have hcz13_3 : w3.cell? ⟨gb204, 3, none⟩ = some (.int .i64 a0_3) := (blk_cell BK204.out 3).trans rfl
            have hcz13_4 : w3.cell? ⟨gb204, 4, none⟩ = some (.int .i64 a0_4) := (blk_cell BK204.out 4).trans rfl
            have hcz13_5 : w3.cell? ⟨gb204, 5, none⟩ = some (.int .i64 a0_5) := (blk_cell BK204.out 5).trans rfl
            have hcz13_6 : w3.cell? ⟨gb204, 6, none⟩ = some (.int .i64 a0_6) := (blk_cell BK204.out 6).trans rfl
            have hcz13_7 : w3.cell? ⟨gb204, 7, none⟩ = some (.int .i64 a0_7) := (blk_cell BK204.out 7).trans rfl
            have hfz13_0 := blk_frozen BK204.out 0
            have hfz13_1 := blk_frozen BK204.out 1
            have hfz13_2 := blk_frozen BK204.out 2
            have hfz13_3 := blk_frozen BK204.out 3
            have hfz13_4 := blk_frozen BK204.out 4
            have hfz13_5 := blk_frozen BK204.out 5
            have hfz13_6 := blk_frozen BK204.out 6
            have hfz13_7 := blk_frozen BK204.out 7
            go_wp2_with (first | ((with_reducible refine gate_callee (f := 25) rfl ?_); refine goesL_ (some 6) rfl rfl Try.func25 (by kernel_rfl) rfl #[.int .i64 a0_0, .int .i64 0, .int .i64 7] rfl (by (try simp only [List.map_toArray, List.map_cons, List.map_nil]); first | done | rfl | (simp only [List.length_drop, List.length_take]; rfl)) ?_; (with_reducible refine (contraref09_in.calls a0_0 0 7 true _ A4.out).mono ?_); rintro e w' ⟨rfl, ⟨nd, rfl⟩⟩; refine ⟨_, rfl, ?_⟩) | (go_at_call 25; (with_reducible refine (contraref09_in.calls a0_2 0 7 true _ A6.out).mono ?_); rintro e w' ⟨rfl, ⟨nd, rfl⟩⟩) | (go_at_call 25; (with_reducible refine (contraref09_in.calls a0_1 1 1048576 true _ A10.out).mono ?_); rintro e w' ⟨rfl, ⟨nd, rfl⟩⟩) | (go_at_call 25; (with_reducible refine (contraref09_in.calls a0_3 0 7 t208 _ A12.out).mono ?_); rintro e w' ⟨rfl, ⟨nd, rfl⟩⟩))
            go_meet
            case rel => exact ⟨_, (!t208), (by first | rfl | (simp; done) | (simp [*]; done)), H', ⟨by first | omega | exact Nat.le_refl _⟩, ⟨by (with_reducible repeat (first | refine blk_drewN ?_ _ | refine blk_drew ?_ | refine blk_alloc ?_ _)); exact BK204.out⟩, ⟨by repeat (first | (with_reducible first | exact HB.out | apply below_alloc | apply pw_below_drewN | apply below_drew1 | refine below_set ?_ GE204.out) | exact HB.out)⟩⟩
          · replace c11 := Bool.eq_false_iff.mpr c11
            subst c11
            have H1 : (contraref09_Check.j0 k true a0_0 a0_1 a0_2 a0_3 a0_4 a0_5 a0_6 a0_7) = some r := by rw [if_neg (show ¬ (false = true) by decide)] at H; exact H
            clear H
            have H := H1
            clear H1
            have H' := Aside0.mk H
            clear H
            have hcz14_0 : w3.cell? ⟨gb204, 0, none⟩ = some (.int .i64 a0_0) := (blk_cell BK204.out 0).trans rfl
            have hcz14_1 : w3.cell? ⟨gb204, 1, none⟩ = some (.int .i64 a0_1) := (blk_cell BK204.out 1).trans rfl
            have hcz14_2 : w3.cell? ⟨gb204, 2, none⟩ = some (.int .i64 a0_2) := (blk_cell BK204.out 2).trans rfl
            have hcz14_3 : w3.cell? ⟨gb204, 3, none⟩ = some (.int .i64 a0_3) := (blk_cell BK204.out 3).trans rfl
            have hcz14_4 : w3.cell? ⟨gb204, 4, none⟩ = some (.int .i64 a0_4) := (blk_cell BK204.out 4).trans rfl
            have hcz14_5 : w3.cell? ⟨gb204, 5, none⟩ = some (.int .i64 a0_5) := (blk_cell BK204.out 5).trans rfl
            have hcz14_6 : w3.cell? ⟨gb204, 6, none⟩ = some (.int .i64 a0_6) := (blk_cell BK204.out 6).trans rfl
            have hcz14_7 : w3.cell? ⟨gb204, 7, none⟩ = some (.int .i64 a0_7) := (blk_cell BK204.out 7).trans rfl
            have hfz14_0 := blk_frozen BK204.out 0
            have hfz14_1 := blk_frozen BK204.out 1
            have hfz14_2 := blk_frozen BK204.out 2
            have hfz14_3 := blk_frozen BK204.out 3
            have hfz14_4 := blk_frozen BK204.out 4
            have hfz14_5 := blk_frozen BK204.out 5
            have hfz14_6 := blk_frozen BK204.out 6
            have hfz14_7 := blk_frozen BK204.out 7
            go_wp2_with (first | ((with_reducible refine gate_callee (f := 25) rfl ?_); refine goesL_ (some 6) rfl rfl Try.func25 (by kernel_rfl) rfl #[.int .i64 a0_0, .int .i64 0, .int .i64 7] rfl (by (try simp only [List.map_toArray, List.map_cons, List.map_nil]); first | done | rfl | (simp only [List.length_drop, List.length_take]; rfl)) ?_; (with_reducible refine (contraref09_in.calls a0_0 0 7 true _ A4.out).mono ?_); rintro e w' ⟨rfl, ⟨nd, rfl⟩⟩; refine ⟨_, rfl, ?_⟩) | (go_at_call 25; (with_reducible refine (contraref09_in.calls a0_2 0 7 true _ A6.out).mono ?_); rintro e w' ⟨rfl, ⟨nd, rfl⟩⟩) | (go_at_call 25; (with_reducible refine (contraref09_in.calls a0_1 1 1048576 false _ A10.out).mono ?_); rintro e w' ⟨rfl, ⟨nd, rfl⟩⟩))
            go_meet
            case rel => exact ⟨_, (true), (by first | rfl | (simp; done) | (simp [*]; done)), H', ⟨by first | omega | exact Nat.le_refl _⟩, ⟨by (with_reducible repeat (first | refine blk_drewN ?_ _ | refine blk_drew ?_ | refine blk_alloc ?_ _)); exact BK204.out⟩, ⟨by repeat (first | (with_reducible first | exact HB.out | apply below_alloc | apply pw_below_drewN | apply below_drew1 | refine below_set ?_ GE204.out) | exact HB.out)⟩⟩
      · replace c7 := Bool.eq_false_iff.mpr c7
        subst c7
        have H1 : (contraref09_Check.j0 k true a0_0 a0_1 a0_2 a0_3 a0_4 a0_5 a0_6 a0_7) = some r := by rw [if_neg (show ¬ (false = true) by decide)] at H; exact H
        clear H
        have H := H1
        clear H1
        have H' := Aside0.mk H
        clear H
        have hcz15_0 : w3.cell? ⟨gb204, 0, none⟩ = some (.int .i64 a0_0) := (blk_cell BK204.out 0).trans rfl
        have hcz15_1 : w3.cell? ⟨gb204, 1, none⟩ = some (.int .i64 a0_1) := (blk_cell BK204.out 1).trans rfl
        have hcz15_2 : w3.cell? ⟨gb204, 2, none⟩ = some (.int .i64 a0_2) := (blk_cell BK204.out 2).trans rfl
        have hcz15_3 : w3.cell? ⟨gb204, 3, none⟩ = some (.int .i64 a0_3) := (blk_cell BK204.out 3).trans rfl
        have hcz15_4 : w3.cell? ⟨gb204, 4, none⟩ = some (.int .i64 a0_4) := (blk_cell BK204.out 4).trans rfl
        have hcz15_5 : w3.cell? ⟨gb204, 5, none⟩ = some (.int .i64 a0_5) := (blk_cell BK204.out 5).trans rfl
        have hcz15_6 : w3.cell? ⟨gb204, 6, none⟩ = some (.int .i64 a0_6) := (blk_cell BK204.out 6).trans rfl
        have hcz15_7 : w3.cell? ⟨gb204, 7, none⟩ = some (.int .i64 a0_7) := (blk_cell BK204.out 7).trans rfl
        have hfz15_0 := blk_frozen BK204.out 0
        have hfz15_1 := blk_frozen BK204.out 1
        have hfz15_2 := blk_frozen BK204.out 2
        have hfz15_3 := blk_frozen BK204.out 3
        have hfz15_4 := blk_frozen BK204.out 4
        have hfz15_5 := blk_frozen BK204.out 5
        have hfz15_6 := blk_frozen BK204.out 6
        have hfz15_7 := blk_frozen BK204.out 7
        go_wp2_with (first | ((with_reducible refine gate_callee (f := 25) rfl ?_); refine goesL_ (some 6) rfl rfl Try.func25 (by kernel_rfl) rfl #[.int .i64 a0_0, .int .i64 0, .int .i64 7] rfl (by (try simp only [List.map_toArray, List.map_cons, List.map_nil]); first | done | rfl | (simp only [List.length_drop, List.length_take]; rfl)) ?_; (with_reducible refine (contraref09_in.calls a0_0 0 7 true _ A4.out).mono ?_); rintro e w' ⟨rfl, ⟨nd, rfl⟩⟩; refine ⟨_, rfl, ?_⟩) | (go_at_call 25; (with_reducible refine (contraref09_in.calls a0_2 0 7 false _ A6.out).mono ?_); rintro e w' ⟨rfl, ⟨nd, rfl⟩⟩))
        go_meet
        case rel => exact ⟨_, (true), (by first | rfl | (simp; done) | (simp [*]; done)), H', ⟨by first | omega | exact Nat.le_refl _⟩, ⟨by (with_reducible repeat (first | refine blk_drewN ?_ _ | refine blk_drew ?_ | refine blk_alloc ?_ _)); exact BK204.out⟩, ⟨by repeat (first | (with_reducible first | exact HB.out | apply below_alloc | apply pw_below_drewN | apply below_drew1 | refine below_set ?_ GE204.out) | exact HB.out)⟩⟩
    · replace c5 := Bool.eq_false_iff.mpr c5
      subst c5
      have H1 : (contraref09_Check.j0 k true a0_0 a0_1 a0_2 a0_3 a0_4 a0_5 a0_6 a0_7) = some r := by rw [if_neg (show ¬ (false = true) by decide)] at H; exact H
      clear H
      have H := H1
      clear H1
      have H' := Aside0.mk H
      clear H
      have hcz16_0 : w3.cell? ⟨gb204, 0, none⟩ = some (.int .i64 a0_0) := (blk_cell BK204.out 0).trans rfl
      have hcz16_1 : w3.cell? ⟨gb204, 1, none⟩ = some (.int .i64 a0_1) := (blk_cell BK204.out 1).trans rfl
      have hcz16_2 : w3.cell? ⟨gb204, 2, none⟩ = some (.int .i64 a0_2) := (blk_cell BK204.out 2).trans rfl
      have hcz16_3 : w3.cell? ⟨gb204, 3, none⟩ = some (.int .i64 a0_3) := (blk_cell BK204.out 3).trans rfl
      have hcz16_4 : w3.cell? ⟨gb204, 4, none⟩ = some (.int .i64 a0_4) := (blk_cell BK204.out 4).trans rfl
      have hcz16_5 : w3.cell? ⟨gb204, 5, none⟩ = some (.int .i64 a0_5) := (blk_cell BK204.out 5).trans rfl
      have hcz16_6 : w3.cell? ⟨gb204, 6, none⟩ = some (.int .i64 a0_6) := (blk_cell BK204.out 6).trans rfl
      have hcz16_7 : w3.cell? ⟨gb204, 7, none⟩ = some (.int .i64 a0_7) := (blk_cell BK204.out 7).trans rfl
      have hfz16_0 := blk_frozen BK204.out 0
      have hfz16_1 := blk_frozen BK204.out 1
      have hfz16_2 := blk_frozen BK204.out 2
      have hfz16_3 := blk_frozen BK204.out 3
      have hfz16_4 := blk_frozen BK204.out 4
      have hfz16_5 := blk_frozen BK204.out 5
      have hfz16_6 := blk_frozen BK204.out 6
      have hfz16_7 := blk_frozen BK204.out 7
      go_wp2_with (first | ((with_reducible refine gate_callee (f := 25) rfl ?_); refine goesL_ (some 6) rfl rfl Try.func25 (by kernel_rfl) rfl #[.int .i64 a0_0, .int .i64 0, .int .i64 7] rfl (by (try simp only [List.map_toArray, List.map_cons, List.map_nil]); first | done | rfl | (simp only [List.length_drop, List.length_take]; rfl)) ?_; (with_reducible refine (contraref09_in.calls a0_0 0 7 false _ A4.out).mono ?_); rintro e w' ⟨rfl, ⟨nd, rfl⟩⟩; refine ⟨_, rfl, ?_⟩))
      go_meet
      case rel => exact ⟨_, (true), (by first | rfl | (simp; done) | (simp [*]; done)), H', ⟨by first | omega | exact Nat.le_refl _⟩, ⟨by (with_reducible repeat (first | refine blk_drewN ?_ _ | refine blk_drew ?_ | refine blk_alloc ?_ _)); exact BK204.out⟩, ⟨by repeat (first | (with_reducible first | exact HB.out | apply below_alloc | apply pw_below_drewN | apply below_drew1 | refine below_set ?_ GE204.out) | exact HB.out)⟩⟩
  case rest =>
    clear HC2
    try clear c1
    try clear c2
    try clear p2
    try clear c5
    try clear c7
    try clear c8
    try clear c8b0
    try clear c8b1
    try clear c11
    try clear hcz13_0
    try clear hcz13_1
    try clear hcz13_2
    try clear hcz13_3
    try clear hcz13_4
    try clear hcz13_5
    try clear hcz13_6
    try clear hcz13_7
    try clear hcz14_0
    try clear hcz14_1
    try clear hcz14_2
    try clear hcz14_3
    try clear hcz14_4
    try clear hcz14_5
    try clear hcz14_6
    try clear hcz14_7
    try clear hcz15_0
    try clear hcz15_1
    try clear hcz15_2
    try clear hcz15_3
    try clear hcz15_4
    try clear hcz15_5
    try clear hcz15_6
    try clear hcz15_7
    try clear hcz16_0
    try clear hcz16_1
    try clear hcz16_2
    try clear hcz16_3
    try clear hcz16_4
    try clear hcz16_5
    try clear hcz16_6
    try clear hcz16_7
    try clear hcz9_0
    try clear hcz9_1
    try clear hcz9_2
    try clear hcz9_3
    try clear hcz9_4
    try clear hcz9_5
    try clear hcz9_6
    try clear hcz9_7
    try clear hfz13_0
    try clear hfz13_1
    try clear hfz13_2
    try clear hfz13_3
    try clear hfz13_4
    try clear hfz13_5
    try clear hfz13_6
    try clear hfz13_7
    try clear hfz14_0
    try clear hfz14_1
    try clear hfz14_2
    try clear hfz14_3
    try clear hfz14_4
    try clear hfz14_5
    try clear hfz14_6
    try clear hfz14_7
    try clear hfz15_0
    try clear hfz15_1
    try clear hfz15_2
    try clear hfz15_3
    try clear hfz15_4
    try clear hfz15_5
    try clear hfz15_6
    try clear hfz15_7
    try clear hfz16_0
    try clear hfz16_1
    try clear hfz16_2
    try clear hfz16_3
    try clear hfz16_4
    try clear hfz16_5
    try clear hfz16_6
    try clear hfz16_7
    try clear hfz9_0
    try clear hfz9_1
    try clear hfz9_2
    try clear hfz9_3
    try clear hfz9_4
    try clear hfz9_5
    try clear hfz9_6
    try clear hfz9_7
    obtain ⟨kq, x34_1, rfl, HA, HJ1, BK204, HB⟩ := hcut
    cases kq with
    | zero => exact absurd HA.out (by simp [contraref09_Check.j0])
    | succ kj1 =>
      have H := HA.out
      clear HA
      simp only [contraref09_Check.j0] at H
      by_cases c17 : x34_1 = true
      · subst c17
        have H1 : (some 1) = some r := by rw [if_pos rfl] at H; exact H
        clear H
        have H := H1
        clear H1
        obtain rfl := Option.some.inj H
        go_wp2
        go_ret
        exact ⟨by first | rfl | (simp [errW_none, errW_some] <;> rfl) | (simp [*, errW_none, errW_some] <;> rfl), by repeat (first | (with_reducible first | exact HB.out | apply below_alloc | apply pw_below_drewN | apply below_drew1 | refine below_set ?_ GE204.out) | exact HB.out)⟩
      · replace c17 := Bool.eq_false_iff.mpr c17
        subst c17
        have H1 : ((contraref09_in.f a0_4 1 1125899906842624).bind fun t209 => (if t209 = true then ((contraref09_in.f a0_5 0 3).bind fun t210 => (if t210 = true then ((contraref09_in.f a0_6 1 5).bind fun t211 => (if t211 = true then ((contraref09_in.f a0_7 0 1048576).bind fun t212 => (contraref09_Check.j1 kj1 (!t212) a0_0 a0_1 a0_2 a0_3 a0_4 a0_5 a0_6 a0_7)) else (contraref09_Check.j1 kj1 true a0_0 a0_1 a0_2 a0_3 a0_4 a0_5 a0_6 a0_7))) else (contraref09_Check.j1 kj1 true a0_0 a0_1 a0_2 a0_3 a0_4 a0_5 a0_6 a0_7))) else (contraref09_Check.j1 kj1 true a0_0 a0_1 a0_2 a0_3 a0_4 a0_5 a0_6 a0_7))) = some r := by rw [if_neg (show ¬ (false = true) by decide)] at H; exact H
        clear H
        have H := H1
        clear H1
        have HC18 := Aside0.mk H
        clear H
        go_upto_region 3 with (fail)
        go_cut [56] (fun v56 wc => ∃ (kq : Nat) (x56_17 : Bool), v56 = .bool x56_17 ∧ Aside0 (contraref09_Check.j1 kq x56_17 a0_0 a0_1 a0_2 a0_3 a0_4 a0_5 a0_6 a0_7 = some r) ∧ Aside0 (kq ≤ kj1) ∧ Aside0 (wc.heap[gb204]? = some (.cells #[.int .i64 a0_0, .int .i64 a0_1, .int .i64 a0_2, .int .i64 a0_3, .int .i64 a0_4, .int .i64 a0_5, .int .i64 a0_6, .int .i64 a0_7] 25 (0, 0))) ∧ Aside0 (Below w.heap.size w wc))
        case first =>
          have H := HC18.out
          clear HC18
          replace H := Option.bind_eq_some_iff.mp H
          obtain ⟨t209, A190, H⟩ := H
          replace H : (if t209 = true then ((contraref09_in.f a0_5 0 3).bind fun t210 => (if t210 = true then ((contraref09_in.f a0_6 1 5).bind fun t211 => (if t211 = true then ((contraref09_in.f a0_7 0 1048576).bind fun t212 => (contraref09_Check.j1 kj1 (!t212) a0_0 a0_1 a0_2 a0_3 a0_4 a0_5 a0_6 a0_7)) else (contraref09_Check.j1 kj1 true a0_0 a0_1 a0_2 a0_3 a0_4 a0_5 a0_6 a0_7))) else (contraref09_Check.j1 kj1 true a0_0 a0_1 a0_2 a0_3 a0_4 a0_5 a0_6 a0_7))) else (contraref09_Check.j1 kj1 true a0_0 a0_1 a0_2 a0_3 a0_4 a0_5 a0_6 a0_7)) = some r := H
          have A19 := Aside0.mk A190
          clear A190
          by_cases c20 : t209 = true
          · subst c20
            have H1 : ((contraref09_in.f a0_5 0 3).bind fun t210 => (if t210 = true then ((contraref09_in.f a0_6 1 5).bind fun t211 => (if t211 = true then ((contraref09_in.f a0_7 0 1048576).bind fun t212 => (contraref09_Check.j1 kj1 (!t212) a0_0 a0_1 a0_2 a0_3 a0_4 a0_5 a0_6 a0_7)) else (contraref09_Check.j1 kj1 true a0_0 a0_1 a0_2 a0_3 a0_4 a0_5 a0_6 a0_7))) else (contraref09_Check.j1 kj1 true a0_0 a0_1 a0_2 a0_3 a0_4 a0_5 a0_6 a0_7))) = some r := by rw [if_pos rfl] at H; exact H
            clear H
            have H := H1
            clear H1
            replace H := Option.bind_eq_some_iff.mp H
            obtain ⟨t210, A210, H⟩ := H
            replace H : (if t210 = true then ((contraref09_in.f a0_6 1 5).bind fun t211 => (if t211 = true then ((contraref09_in.f a0_7 0 1048576).bind fun t212 => (contraref09_Check.j1 kj1 (!t212) a0_0 a0_1 a0_2 a0_3 a0_4 a0_5 a0_6 a0_7)) else (contraref09_Check.j1 kj1 true a0_0 a0_1 a0_2 a0_3 a0_4 a0_5 a0_6 a0_7))) else (contraref09_Check.j1 kj1 true a0_0 a0_1 a0_2 a0_3 a0_4 a0_5 a0_6 a0_7)) = some r := H
            have A21 := Aside0.mk A210
            clear A210
            by_cases c22 : t210 = true
            · subst c22
              have H1 : ((contraref09_in.f a0_6 1 5).bind fun t211 => (if t211 = true then ((contraref09_in.f a0_7 0 1048576).bind fun t212 => (contraref09_Check.j1 kj1 (!t212) a0_0 a0_1 a0_2 a0_3 a0_4 a0_5 a0_6 a0_7)) else (contraref09_Check.j1 kj1 true a0_0 a0_1 a0_2 a0_3 a0_4 a0_5 a0_6 a0_7))) = some r := by rw [if_pos rfl] at H; exact H
              clear H
              have H := H1
              clear H1
              replace H := Option.bind_eq_some_iff.mp H
              obtain ⟨t211, A230, H⟩ := H
              replace H : (if t211 = true then ((contraref09_in.f a0_7 0 1048576).bind fun t212 => (contraref09_Check.j1 kj1 (!t212) a0_0 a0_1 a0_2 a0_3 a0_4 a0_5 a0_6 a0_7)) else (contraref09_Check.j1 kj1 true a0_0 a0_1 a0_2 a0_3 a0_4 a0_5 a0_6 a0_7)) = some r := H
              have A23 := Aside0.mk A230
              clear A230
              by_cases c24 : t211 = true
              · subst c24
                have H1 : ((contraref09_in.f a0_7 0 1048576).bind fun t212 => (contraref09_Check.j1 kj1 (!t212) a0_0 a0_1 a0_2 a0_3 a0_4 a0_5 a0_6 a0_7)) = some r := by rw [if_pos rfl] at H; exact H
                clear H
                have H := H1
                clear H1
                replace H := Option.bind_eq_some_iff.mp H
                obtain ⟨t212, A250, H⟩ := H
                replace H : (contraref09_Check.j1 kj1 (!t212) a0_0 a0_1 a0_2 a0_3 a0_4 a0_5 a0_6 a0_7) = some r := H
                have A25 := Aside0.mk A250
                clear A250
                have H' := Aside0.mk H
                clear H
                have hcz26_0 : wc.cell? ⟨gb204, 0, none⟩ = some (.int .i64 a0_0) := (blk_cell BK204.out 0).trans rfl
                have hcz26_1 : wc.cell? ⟨gb204, 1, none⟩ = some (.int .i64 a0_1) := (blk_cell BK204.out 1).trans rfl
                have hcz26_2 : wc.cell? ⟨gb204, 2, none⟩ = some (.int .i64 a0_2) := (blk_cell BK204.out 2).trans rfl
                have hcz26_3 : wc.cell? ⟨gb204, 3, none⟩ = some (.int .i64 a0_3) := (blk_cell BK204.out 3).trans rfl
                have hcz26_4 : wc.cell? ⟨gb204, 4, none⟩ = some (.int .i64 a0_4) := (blk_cell BK204.out 4).trans rfl
                have hcz26_5 : wc.cell? ⟨gb204, 5, none⟩ = some (.int .i64 a0_5) := (blk_cell BK204.out 5).trans rfl
                have hcz26_6 : wc.cell? ⟨gb204, 6, none⟩ = some (.int .i64 a0_6) := (blk_cell BK204.out 6).trans rfl
                have hcz26_7 : wc.cell? ⟨gb204, 7, none⟩ = some (.int .i64 a0_7) := (blk_cell BK204.out 7).trans rfl
                have hfz26_0 := blk_frozen BK204.out 0
                have hfz26_1 := blk_frozen BK204.out 1
                have hfz26_2 := blk_frozen BK204.out 2
                have hfz26_3 := blk_frozen BK204.out 3
                have hfz26_4 := blk_frozen BK204.out 4
                have hfz26_5 := blk_frozen BK204.out 5
                have hfz26_6 := blk_frozen BK204.out 6
                have hfz26_7 := blk_frozen BK204.out 7
                go_wp2_with (first | ((with_reducible refine gate_callee (f := 25) rfl ?_); refine goesL_ (some 37) rfl rfl Try.func25 (by kernel_rfl) rfl #[.int .i64 a0_4, .int .i64 1, .int .i64 1125899906842624] rfl (by (try simp only [List.map_toArray, List.map_cons, List.map_nil]); first | done | rfl | (simp only [List.length_drop, List.length_take]; rfl)) ?_; (with_reducible refine (contraref09_in.calls a0_4 1 1125899906842624 true _ A19.out).mono ?_); rintro e w' ⟨rfl, ⟨nd, rfl⟩⟩; refine ⟨_, rfl, ?_⟩) | (go_at_call 25; (with_reducible refine (contraref09_in.calls a0_5 0 3 true _ A21.out).mono ?_); rintro e w' ⟨rfl, ⟨nd, rfl⟩⟩) | (go_at_call 25; (with_reducible refine (contraref09_in.calls a0_6 1 5 true _ A23.out).mono ?_); rintro e w' ⟨rfl, ⟨nd, rfl⟩⟩) | (go_at_call 25; (with_reducible refine (contraref09_in.calls a0_7 0 1048576 t212 _ A25.out).mono ?_); rintro e w' ⟨rfl, ⟨nd, rfl⟩⟩))
                go_meet
                case rel => exact ⟨_, (!t212), (by first | rfl | (simp; done) | (simp [*]; done)), H', ⟨by have := HJ1.out; first | omega | exact Nat.le_refl _⟩, ⟨by (with_reducible repeat (first | refine blk_drewN ?_ _ | refine blk_drew ?_ | refine blk_alloc ?_ _)); exact BK204.out⟩, ⟨by repeat (first | (with_reducible first | exact HB.out | apply below_alloc | apply pw_below_drewN | apply below_drew1 | refine below_set ?_ GE204.out) | exact HB.out)⟩⟩
              · replace c24 := Bool.eq_false_iff.mpr c24
                subst c24
                have H1 : (contraref09_Check.j1 kj1 true a0_0 a0_1 a0_2 a0_3 a0_4 a0_5 a0_6 a0_7) = some r := by rw [if_neg (show ¬ (false = true) by decide)] at H; exact H
                clear H
                have H := H1
                clear H1
                have H' := Aside0.mk H
                clear H
                have hcz27_0 : wc.cell? ⟨gb204, 0, none⟩ = some (.int .i64 a0_0) := (blk_cell BK204.out 0).trans rfl
                have hcz27_1 : wc.cell? ⟨gb204, 1, none⟩ = some (.int .i64 a0_1) := (blk_cell BK204.out 1).trans rfl
                have hcz27_2 : wc.cell? ⟨gb204, 2, none⟩ = some (.int .i64 a0_2) := (blk_cell BK204.out 2).trans rfl
                have hcz27_3 : wc.cell? ⟨gb204, 3, none⟩ = some (.int .i64 a0_3) := (blk_cell BK204.out 3).trans rfl
                have hcz27_4 : wc.cell? ⟨gb204, 4, none⟩ = some (.int .i64 a0_4) := (blk_cell BK204.out 4).trans rfl
                have hcz27_5 : wc.cell? ⟨gb204, 5, none⟩ = some (.int .i64 a0_5) := (blk_cell BK204.out 5).trans rfl
                have hcz27_6 : wc.cell? ⟨gb204, 6, none⟩ = some (.int .i64 a0_6) := (blk_cell BK204.out 6).trans rfl
                have hcz27_7 : wc.cell? ⟨gb204, 7, none⟩ = some (.int .i64 a0_7) := (blk_cell BK204.out 7).trans rfl
                have hfz27_0 := blk_frozen BK204.out 0
                have hfz27_1 := blk_frozen BK204.out 1
                have hfz27_2 := blk_frozen BK204.out 2
                have hfz27_3 := blk_frozen BK204.out 3
                have hfz27_4 := blk_frozen BK204.out 4
                have hfz27_5 := blk_frozen BK204.out 5
                have hfz27_6 := blk_frozen BK204.out 6
                have hfz27_7 := blk_frozen BK204.out 7
                go_wp2_with (first | ((with_reducible refine gate_callee (f := 25) rfl ?_); refine goesL_ (some 37) rfl rfl Try.func25 (by kernel_rfl) rfl #[.int .i64 a0_4, .int .i64 1, .int .i64 1125899906842624] rfl (by (try simp only [List.map_toArray, List.map_cons, List.map_nil]); first | done | rfl | (simp only [List.length_drop, List.length_take]; rfl)) ?_; (with_reducible refine (contraref09_in.calls a0_4 1 1125899906842624 true _ A19.out).mono ?_); rintro e w' ⟨rfl, ⟨nd, rfl⟩⟩; refine ⟨_, rfl, ?_⟩) | (go_at_call 25; (with_reducible refine (contraref09_in.calls a0_5 0 3 true _ A21.out).mono ?_); rintro e w' ⟨rfl, ⟨nd, rfl⟩⟩) | (go_at_call 25; (with_reducible refine (contraref09_in.calls a0_6 1 5 false _ A23.out).mono ?_); rintro e w' ⟨rfl, ⟨nd, rfl⟩⟩))
                go_meet
                case rel => exact ⟨_, (true), (by first | rfl | (simp; done) | (simp [*]; done)), H', ⟨by have := HJ1.out; first | omega | exact Nat.le_refl _⟩, ⟨by (with_reducible repeat (first | refine blk_drewN ?_ _ | refine blk_drew ?_ | refine blk_alloc ?_ _)); exact BK204.out⟩, ⟨by repeat (first | (with_reducible first | exact HB.out | apply below_alloc | apply pw_below_drewN | apply below_drew1 | refine below_set ?_ GE204.out) | exact HB.out)⟩⟩
            · replace c22 := Bool.eq_false_iff.mpr c22
              subst c22
              have H1 : (contraref09_Check.j1 kj1 true a0_0 a0_1 a0_2 a0_3 a0_4 a0_5 a0_6 a0_7) = some r := by rw [if_neg (show ¬ (false = true) by decide)] at H; exact H
              clear H
              have H := H1
              clear H1
              have H' := Aside0.mk H
              clear H
              have hcz28_0 : wc.cell? ⟨gb204, 0, none⟩ = some (.int .i64 a0_0) := (blk_cell BK204.out 0).trans rfl
              have hcz28_1 : wc.cell? ⟨gb204, 1, none⟩ = some (.int .i64 a0_1) := (blk_cell BK204.out 1).trans rfl
              have hcz28_2 : wc.cell? ⟨gb204, 2, none⟩ = some (.int .i64 a0_2) := (blk_cell BK204.out 2).trans rfl
              have hcz28_3 : wc.cell? ⟨gb204, 3, none⟩ = some (.int .i64 a0_3) := (blk_cell BK204.out 3).trans rfl
              have hcz28_4 : wc.cell? ⟨gb204, 4, none⟩ = some (.int .i64 a0_4) := (blk_cell BK204.out 4).trans rfl
              have hcz28_5 : wc.cell? ⟨gb204, 5, none⟩ = some (.int .i64 a0_5) := (blk_cell BK204.out 5).trans rfl
              have hcz28_6 : wc.cell? ⟨gb204, 6, none⟩ = some (.int .i64 a0_6) := (blk_cell BK204.out 6).trans rfl
              have hcz28_7 : wc.cell? ⟨gb204, 7, none⟩ = some (.int .i64 a0_7) := (blk_cell BK204.out 7).trans rfl
              have hfz28_0 := blk_frozen BK204.out 0
              have hfz28_1 := blk_frozen BK204.out 1
              have hfz28_2 := blk_frozen BK204.out 2
              have hfz28_3 := blk_frozen BK204.out 3
              have hfz28_4 := blk_frozen BK204.out 4
              have hfz28_5 := blk_frozen BK204.out 5
              have hfz28_6 := blk_frozen BK204.out 6
              have hfz28_7 := blk_frozen BK204.out 7
              go_wp2_with (first | ((with_reducible refine gate_callee (f := 25) rfl ?_); refine goesL_ (some 37) rfl rfl Try.func25 (by kernel_rfl) rfl #[.int .i64 a0_4, .int .i64 1, .int .i64 1125899906842624] rfl (by (try simp only [List.map_toArray, List.map_cons, List.map_nil]); first | done | rfl | (simp only [List.length_drop, List.length_take]; rfl)) ?_; (with_reducible refine (contraref09_in.calls a0_4 1 1125899906842624 true _ A19.out).mono ?_); rintro e w' ⟨rfl, ⟨nd, rfl⟩⟩; refine ⟨_, rfl, ?_⟩) | (go_at_call 25; (with_reducible refine (contraref09_in.calls a0_5 0 3 false _ A21.out).mono ?_); rintro e w' ⟨rfl, ⟨nd, rfl⟩⟩))
              go_meet
              case rel => exact ⟨_, (true), (by first | rfl | (simp; done) | (simp [*]; done)), H', ⟨by have := HJ1.out; first | omega | exact Nat.le_refl _⟩, ⟨by (with_reducible repeat (first | refine blk_drewN ?_ _ | refine blk_drew ?_ | refine blk_alloc ?_ _)); exact BK204.out⟩, ⟨by repeat (first | (with_reducible first | exact HB.out | apply below_alloc | apply pw_below_drewN | apply below_drew1 | refine below_set ?_ GE204.out) | exact HB.out)⟩⟩
          · replace c20 := Bool.eq_false_iff.mpr c20
            subst c20
            have H1 : (contraref09_Check.j1 kj1 true a0_0 a0_1 a0_2 a0_3 a0_4 a0_5 a0_6 a0_7) = some r := by rw [if_neg (show ¬ (false = true) by decide)] at H; exact H
            clear H
            have H := H1
            clear H1
            have H' := Aside0.mk H
            clear H
            have hcz29_0 : wc.cell? ⟨gb204, 0, none⟩ = some (.int .i64 a0_0) := (blk_cell BK204.out 0).trans rfl
            have hcz29_1 : wc.cell? ⟨gb204, 1, none⟩ = some (.int .i64 a0_1) := (blk_cell BK204.out 1).trans rfl
            have hcz29_2 : wc.cell? ⟨gb204, 2, none⟩ = some (.int .i64 a0_2) := (blk_cell BK204.out 2).trans rfl
            have hcz29_3 : wc.cell? ⟨gb204, 3, none⟩ = some (.int .i64 a0_3) := (blk_cell BK204.out 3).trans rfl
            have hcz29_4 : wc.cell? ⟨gb204, 4, none⟩ = some (.int .i64 a0_4) := (blk_cell BK204.out 4).trans rfl
            have hcz29_5 : wc.cell? ⟨gb204, 5, none⟩ = some (.int .i64 a0_5) := (blk_cell BK204.out 5).trans rfl
            have hcz29_6 : wc.cell? ⟨gb204, 6, none⟩ = some (.int .i64 a0_6) := (blk_cell BK204.out 6).trans rfl
            have hcz29_7 : wc.cell? ⟨gb204, 7, none⟩ = some (.int .i64 a0_7) := (blk_cell BK204.out 7).trans rfl
            have hfz29_0 := blk_frozen BK204.out 0
            have hfz29_1 := blk_frozen BK204.out 1
            have hfz29_2 := blk_frozen BK204.out 2
            have hfz29_3 := blk_frozen BK204.out 3
            have hfz29_4 := blk_frozen BK204.out 4
            have hfz29_5 := blk_frozen BK204.out 5
            have hfz29_6 := blk_frozen BK204.out 6
            have hfz29_7 := blk_frozen BK204.out 7
            go_wp2_with (first | ((with_reducible refine gate_callee (f := 25) rfl ?_); refine goesL_ (some 37) rfl rfl Try.func25 (by kernel_rfl) rfl #[.int .i64 a0_4, .int .i64 1, .int .i64 1125899906842624] rfl (by (try simp only [List.map_toArray, List.map_cons, List.map_nil]); first | done | rfl | (simp only [List.length_drop, List.length_take]; rfl)) ?_; (with_reducible refine (contraref09_in.calls a0_4 1 1125899906842624 false _ A19.out).mono ?_); rintro e w' ⟨rfl, ⟨nd, rfl⟩⟩; refine ⟨_, rfl, ?_⟩))
            go_meet
            case rel => exact ⟨_, (true), (by first | rfl | (simp; done) | (simp [*]; done)), H', ⟨by have := HJ1.out; first | omega | exact Nat.le_refl _⟩, ⟨by (with_reducible repeat (first | refine blk_drewN ?_ _ | refine blk_drew ?_ | refine blk_alloc ?_ _)); exact BK204.out⟩, ⟨by repeat (first | (with_reducible first | exact HB.out | apply below_alloc | apply pw_below_drewN | apply below_drew1 | refine below_set ?_ GE204.out) | exact HB.out)⟩⟩
        case rest =>
          clear HC18
          try clear c1
          try clear c2
          try clear p2
          try clear c5
          try clear c7
          try clear c8
          try clear c8b0
          try clear c8b1
          try clear c11
          try clear c17
          try clear c20
          try clear c22
          try clear c24
          try clear c25
          try clear hcz13_0
          try clear hcz13_1
          try clear hcz13_2
          try clear hcz13_3
          try clear hcz13_4
          try clear hcz13_5
          try clear hcz13_6
          try clear hcz13_7
          try clear hcz14_0
          try clear hcz14_1
          try clear hcz14_2
          try clear hcz14_3
          try clear hcz14_4
          try clear hcz14_5
          try clear hcz14_6
          try clear hcz14_7
          try clear hcz15_0
          try clear hcz15_1
          try clear hcz15_2
          try clear hcz15_3
          try clear hcz15_4
          try clear hcz15_5
          try clear hcz15_6
          try clear hcz15_7
          try clear hcz16_0
          try clear hcz16_1
          try clear hcz16_2
          try clear hcz16_3
          try clear hcz16_4
          try clear hcz16_5
          try clear hcz16_6
          try clear hcz16_7
          try clear hcz26_0
          try clear hcz26_1
          try clear hcz26_2
          try clear hcz26_3
          try clear hcz26_4
          try clear hcz26_5
          try clear hcz26_6
          try clear hcz26_7
          try clear hcz27_0
          try clear hcz27_1
          try clear hcz27_2
          try clear hcz27_3
          try clear hcz27_4
          try clear hcz27_5
          try clear hcz27_6
          try clear hcz27_7
          try clear hcz28_0
          try clear hcz28_1
          try clear hcz28_2
          try clear hcz28_3
          try clear hcz28_4
          try clear hcz28_5
          try clear hcz28_6
          try clear hcz28_7
          try clear hcz29_0
          try clear hcz29_1
          try clear hcz29_2
          try clear hcz29_3
          try clear hcz29_4
          try clear hcz29_5
          try clear hcz29_6
          try clear hcz29_7
          try clear hcz9_0
          try clear hcz9_1
          try clear hcz9_2
          try clear hcz9_3
          try clear hcz9_4
          try clear hcz9_5
          try clear hcz9_6
          try clear hcz9_7
          try clear hfz13_0
          try clear hfz13_1
          try clear hfz13_2
          try clear hfz13_3
          try clear hfz13_4
          try clear hfz13_5
          try clear hfz13_6
          try clear hfz13_7
          try clear hfz14_0
          try clear hfz14_1
          try clear hfz14_2
          try clear hfz14_3
          try clear hfz14_4
          try clear hfz14_5
          try clear hfz14_6
          try clear hfz14_7
          try clear hfz15_0
          try clear hfz15_1
          try clear hfz15_2
          try clear hfz15_3
          try clear hfz15_4
          try clear hfz15_5
          try clear hfz15_6
          try clear hfz15_7
          try clear hfz16_0
          try clear hfz16_1
          try clear hfz16_2
          try clear hfz16_3
          try clear hfz16_4
          try clear hfz16_5
          try clear hfz16_6
          try clear hfz16_7
          try clear hfz26_0
          try clear hfz26_1
          try clear hfz26_2
          try clear hfz26_3
          try clear hfz26_4
          try clear hfz26_5
          try clear hfz26_6
          try clear hfz26_7
          try clear hfz27_0
          try clear hfz27_1
          try clear hfz27_2
          try clear hfz27_3
          try clear hfz27_4
          try clear hfz27_5
          try clear hfz27_6
          try clear hfz27_7
          try clear hfz28_0
          try clear hfz28_1
          try clear hfz28_2
          try clear hfz28_3
          try clear hfz28_4
          try clear hfz28_5
          try clear hfz28_6
          try clear hfz28_7
          try clear hfz29_0
          try clear hfz29_1
          try clear hfz29_2
          try clear hfz29_3
          try clear hfz29_4
          try clear hfz29_5
          try clear hfz29_6
          try clear hfz29_7
          try clear hfz9_0
          try clear hfz9_1
          try clear hfz9_2
          try clear hfz9_3
          try clear hfz9_4
          try clear hfz9_5
          try clear hfz9_6
          try clear hfz9_7
          try clear p2
          obtain ⟨kq, x56_17, rfl, HA, HJ17, BK204, HB⟩ := hcut
          cases kq with
          | zero => exact absurd HA.out (by simp [contraref09_Check.j1])
          | succ kj17 =>
            have H := HA.out
            clear HA
            simp only [contraref09_Check.j1] at H
            by_cases c30 : x56_17 = true
            · subst c30
              have H1 : (some 1) = some r := by rw [if_pos rfl] at H; exact H
              clear H
              have H := H1
              clear H1
              obtain rfl := Option.some.inj H
              go_wp2
              go_ret
              exact ⟨by first | rfl | (simp [errW_none, errW_some] <;> rfl) | (simp [*, errW_none, errW_some] <;> rfl), by repeat (first | (with_reducible first | exact HB.out | apply below_alloc | apply pw_below_drewN | apply below_drew1 | refine below_set ?_ GE204.out) | exact HB.out)⟩
            · replace c30 := Bool.eq_false_iff.mpr c30
              subst c30
              have H1 : (if a0_7 = 0 then (if a0_6 = 5 then (some 90) else (some 0)) else (if a0_6 = 3 then (some 0) else (if a0_6 = 5 then (some 0) else (some 90)))) = some r := by rw [if_neg (show ¬ (false = true) by decide)] at H; exact H
              clear H
              have H := H1
              clear H1
              by_cases c31 : a0_7 = 0
              · rw [if_pos c31] at H
                have c31b0 : (a0_7 == 0) = true := beq_iff_eq.mpr c31
                have c31b1 : (a0_7 != 0) = false := bne_eq_false_iff_eq.mpr c31
                clear c31
                by_cases c32 : a0_6 = 5
                · rw [if_pos c32] at H
                  have c32b0 : (a0_6 == 5) = true := beq_iff_eq.mpr c32
                  have c32b1 : (a0_6 != 5) = false := bne_eq_false_iff_eq.mpr c32
                  clear c32
                  obtain rfl := Option.some.inj H
                  have hcz33_0 : wc.cell? ⟨gb204, 0, none⟩ = some (.int .i64 a0_0) := (blk_cell BK204.out 0).trans rfl
                  have hcz33_1 : wc.cell? ⟨gb204, 1, none⟩ = some (.int .i64 a0_1) := (blk_cell BK204.out 1).trans rfl
                  have hcz33_2 : wc.cell? ⟨gb204, 2, none⟩ = some (.int .i64 a0_2) := (blk_cell BK204.out 2).trans rfl
                  have hcz33_3 : wc.cell? ⟨gb204, 3, none⟩ = some (.int .i64 a0_3) := (blk_cell BK204.out 3).trans rfl
                  have hcz33_4 : wc.cell? ⟨gb204, 4, none⟩ = some (.int .i64 a0_4) := (blk_cell BK204.out 4).trans rfl
                  have hcz33_5 : wc.cell? ⟨gb204, 5, none⟩ = some (.int .i64 a0_5) := (blk_cell BK204.out 5).trans rfl
                  have hcz33_6 : wc.cell? ⟨gb204, 6, none⟩ = some (.int .i64 a0_6) := (blk_cell BK204.out 6).trans rfl
                  have hcz33_7 : wc.cell? ⟨gb204, 7, none⟩ = some (.int .i64 a0_7) := (blk_cell BK204.out 7).trans rfl
                  have hfz33_0 := blk_frozen BK204.out 0
                  have hfz33_1 := blk_frozen BK204.out 1
                  have hfz33_2 := blk_frozen BK204.out 2
                  have hfz33_3 := blk_frozen BK204.out 3
                  have hfz33_4 := blk_frozen BK204.out 4
                  have hfz33_5 := blk_frozen BK204.out 5
                  have hfz33_6 := blk_frozen BK204.out 6
                  have hfz33_7 := blk_frozen BK204.out 7
                  go_wp2
                  go_ret
                  exact ⟨by first | rfl | (simp [errW_none, errW_some] <;> rfl) | (simp [*, errW_none, errW_some] <;> rfl), by repeat (first | (with_reducible first | exact HB.out | apply below_alloc | apply pw_below_drewN | apply below_drew1 | refine below_set ?_ GE204.out) | exact HB.out)⟩
                · rw [if_neg c32] at H
                  have c32b0 : (a0_6 == 5) = false := beq_eq_false_iff_ne.mpr c32
                  have c32b1 : (a0_6 != 5) = true := bne_iff_ne.mpr c32
                  obtain rfl := Option.some.inj H
                  have hcz34_0 : wc.cell? ⟨gb204, 0, none⟩ = some (.int .i64 a0_0) := (blk_cell BK204.out 0).trans rfl
                  have hcz34_1 : wc.cell? ⟨gb204, 1, none⟩ = some (.int .i64 a0_1) := (blk_cell BK204.out 1).trans rfl
                  have hcz34_2 : wc.cell? ⟨gb204, 2, none⟩ = some (.int .i64 a0_2) := (blk_cell BK204.out 2).trans rfl
                  have hcz34_3 : wc.cell? ⟨gb204, 3, none⟩ = some (.int .i64 a0_3) := (blk_cell BK204.out 3).trans rfl
                  have hcz34_4 : wc.cell? ⟨gb204, 4, none⟩ = some (.int .i64 a0_4) := (blk_cell BK204.out 4).trans rfl
                  have hcz34_5 : wc.cell? ⟨gb204, 5, none⟩ = some (.int .i64 a0_5) := (blk_cell BK204.out 5).trans rfl
                  have hcz34_6 : wc.cell? ⟨gb204, 6, none⟩ = some (.int .i64 a0_6) := (blk_cell BK204.out 6).trans rfl
                  have hcz34_7 : wc.cell? ⟨gb204, 7, none⟩ = some (.int .i64 a0_7) := (blk_cell BK204.out 7).trans rfl
                  have hfz34_0 := blk_frozen BK204.out 0
                  have hfz34_1 := blk_frozen BK204.out 1
                  have hfz34_2 := blk_frozen BK204.out 2
                  have hfz34_3 := blk_frozen BK204.out 3
                  have hfz34_4 := blk_frozen BK204.out 4
                  have hfz34_5 := blk_frozen BK204.out 5
                  have hfz34_6 := blk_frozen BK204.out 6
                  have hfz34_7 := blk_frozen BK204.out 7
                  go_wp2
                  go_ret
                  exact ⟨by first | rfl | (simp [errW_none, errW_some] <;> rfl) | (simp [*, errW_none, errW_some] <;> rfl), by repeat (first | (with_reducible first | exact HB.out | apply below_alloc | apply pw_below_drewN | apply below_drew1 | refine below_set ?_ GE204.out) | exact HB.out)⟩
              · rw [if_neg c31] at H
                have c31b0 : (a0_7 == 0) = false := beq_eq_false_iff_ne.mpr c31
                have c31b1 : (a0_7 != 0) = true := bne_iff_ne.mpr c31
                by_cases c35 : a0_6 = 3
                · rw [if_pos c35] at H
                  have c35b0 : (a0_6 == 3) = true := beq_iff_eq.mpr c35
                  have c35b1 : (a0_6 != 3) = false := bne_eq_false_iff_eq.mpr c35
                  clear c35
                  obtain rfl := Option.some.inj H
                  have hcz36_0 : wc.cell? ⟨gb204, 0, none⟩ = some (.int .i64 a0_0) := (blk_cell BK204.out 0).trans rfl
                  have hcz36_1 : wc.cell? ⟨gb204, 1, none⟩ = some (.int .i64 a0_1) := (blk_cell BK204.out 1).trans rfl
                  have hcz36_2 : wc.cell? ⟨gb204, 2, none⟩ = some (.int .i64 a0_2) := (blk_cell BK204.out 2).trans rfl
                  have hcz36_3 : wc.cell? ⟨gb204, 3, none⟩ = some (.int .i64 a0_3) := (blk_cell BK204.out 3).trans rfl
                  have hcz36_4 : wc.cell? ⟨gb204, 4, none⟩ = some (.int .i64 a0_4) := (blk_cell BK204.out 4).trans rfl
                  have hcz36_5 : wc.cell? ⟨gb204, 5, none⟩ = some (.int .i64 a0_5) := (blk_cell BK204.out 5).trans rfl
                  have hcz36_6 : wc.cell? ⟨gb204, 6, none⟩ = some (.int .i64 a0_6) := (blk_cell BK204.out 6).trans rfl
                  have hcz36_7 : wc.cell? ⟨gb204, 7, none⟩ = some (.int .i64 a0_7) := (blk_cell BK204.out 7).trans rfl
                  have hfz36_0 := blk_frozen BK204.out 0
                  have hfz36_1 := blk_frozen BK204.out 1
                  have hfz36_2 := blk_frozen BK204.out 2
                  have hfz36_3 := blk_frozen BK204.out 3
                  have hfz36_4 := blk_frozen BK204.out 4
                  have hfz36_5 := blk_frozen BK204.out 5
                  have hfz36_6 := blk_frozen BK204.out 6
                  have hfz36_7 := blk_frozen BK204.out 7
                  go_wp2
                  go_ret
                  exact ⟨by first | rfl | (simp [errW_none, errW_some] <;> rfl) | (simp [*, errW_none, errW_some] <;> rfl), by repeat (first | (with_reducible first | exact HB.out | apply below_alloc | apply pw_below_drewN | apply below_drew1 | refine below_set ?_ GE204.out) | exact HB.out)⟩
                · rw [if_neg c35] at H
                  have c35b0 : (a0_6 == 3) = false := beq_eq_false_iff_ne.mpr c35
                  have c35b1 : (a0_6 != 3) = true := bne_iff_ne.mpr c35
                  by_cases c37 : a0_6 = 5
                  · rw [if_pos c37] at H
                    have c37b0 : (a0_6 == 5) = true := beq_iff_eq.mpr c37
                    have c37b1 : (a0_6 != 5) = false := bne_eq_false_iff_eq.mpr c37
                    clear c37
                    obtain rfl := Option.some.inj H
                    have hcz38_0 : wc.cell? ⟨gb204, 0, none⟩ = some (.int .i64 a0_0) := (blk_cell BK204.out 0).trans rfl
                    have hcz38_1 : wc.cell? ⟨gb204, 1, none⟩ = some (.int .i64 a0_1) := (blk_cell BK204.out 1).trans rfl
                    have hcz38_2 : wc.cell? ⟨gb204, 2, none⟩ = some (.int .i64 a0_2) := (blk_cell BK204.out 2).trans rfl
                    have hcz38_3 : wc.cell? ⟨gb204, 3, none⟩ = some (.int .i64 a0_3) := (blk_cell BK204.out 3).trans rfl
                    have hcz38_4 : wc.cell? ⟨gb204, 4, none⟩ = some (.int .i64 a0_4) := (blk_cell BK204.out 4).trans rfl
                    have hcz38_5 : wc.cell? ⟨gb204, 5, none⟩ = some (.int .i64 a0_5) := (blk_cell BK204.out 5).trans rfl
                    have hcz38_6 : wc.cell? ⟨gb204, 6, none⟩ = some (.int .i64 a0_6) := (blk_cell BK204.out 6).trans rfl
                    have hcz38_7 : wc.cell? ⟨gb204, 7, none⟩ = some (.int .i64 a0_7) := (blk_cell BK204.out 7).trans rfl
                    have hfz38_0 := blk_frozen BK204.out 0
                    have hfz38_1 := blk_frozen BK204.out 1
                    have hfz38_2 := blk_frozen BK204.out 2
                    have hfz38_3 := blk_frozen BK204.out 3
                    have hfz38_4 := blk_frozen BK204.out 4
                    have hfz38_5 := blk_frozen BK204.out 5
                    have hfz38_6 := blk_frozen BK204.out 6
                    have hfz38_7 := blk_frozen BK204.out 7
                    go_wp2
                    go_ret
                    exact ⟨by first | rfl | (simp [errW_none, errW_some] <;> rfl) | (simp [*, errW_none, errW_some] <;> rfl), by repeat (first | (with_reducible first | exact HB.out | apply below_alloc | apply pw_below_drewN | apply below_drew1 | refine below_set ?_ GE204.out) | exact HB.out)⟩
                  · rw [if_neg c37] at H
                    have c37b0 : (a0_6 == 5) = false := beq_eq_false_iff_ne.mpr c37
                    have c37b1 : (a0_6 != 5) = true := bne_iff_ne.mpr c37
                    obtain rfl := Option.some.inj H
                    have hcz39_0 : wc.cell? ⟨gb204, 0, none⟩ = some (.int .i64 a0_0) := (blk_cell BK204.out 0).trans rfl
                    have hcz39_1 : wc.cell? ⟨gb204, 1, none⟩ = some (.int .i64 a0_1) := (blk_cell BK204.out 1).trans rfl
                    have hcz39_2 : wc.cell? ⟨gb204, 2, none⟩ = some (.int .i64 a0_2) := (blk_cell BK204.out 2).trans rfl
                    have hcz39_3 : wc.cell? ⟨gb204, 3, none⟩ = some (.int .i64 a0_3) := (blk_cell BK204.out 3).trans rfl
                    have hcz39_4 : wc.cell? ⟨gb204, 4, none⟩ = some (.int .i64 a0_4) := (blk_cell BK204.out 4).trans rfl
                    have hcz39_5 : wc.cell? ⟨gb204, 5, none⟩ = some (.int .i64 a0_5) := (blk_cell BK204.out 5).trans rfl
                    have hcz39_6 : wc.cell? ⟨gb204, 6, none⟩ = some (.int .i64 a0_6) := (blk_cell BK204.out 6).trans rfl
                    have hcz39_7 : wc.cell? ⟨gb204, 7, none⟩ = some (.int .i64 a0_7) := (blk_cell BK204.out 7).trans rfl
                    have hfz39_0 := blk_frozen BK204.out 0
                    have hfz39_1 := blk_frozen BK204.out 1
                    have hfz39_2 := blk_frozen BK204.out 2
                    have hfz39_3 := blk_frozen BK204.out 3
                    have hfz39_4 := blk_frozen BK204.out 4
                    have hfz39_5 := blk_frozen BK204.out 5
                    have hfz39_6 := blk_frozen BK204.out 6
                    have hfz39_7 := blk_frozen BK204.out 7
                    go_wp2
                    go_ret
                    exact ⟨by first | rfl | (simp [errW_none, errW_some] <;> rfl) | (simp [*, errW_none, errW_some] <;> rfl), by repeat (first | (with_reducible first | exact HB.out | apply below_alloc | apply pw_below_drewN | apply below_drew1 | refine below_set ?_ GE204.out) | exact HB.out)⟩

end Go.Proofs.Ytbmnpjalekailaa.M
