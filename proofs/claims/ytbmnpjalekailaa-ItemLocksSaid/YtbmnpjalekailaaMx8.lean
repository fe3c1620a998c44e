/- Written by a program of this session (a turned copy of the printer: wip/turnprint.py): for each Go function a plain one, and the walk that shows that the code comes to just its answers. -/
import Derived.Test.YtbmnpjalekailaaMx0
namespace Go.Proofs.Ytbmnpjalekailaa.M
open Go.RowKit Go.Proofs.YtbmnpjalekailaaW.PrintWords Go.Proofs.YtbmnpjalekailaaW.PrintLast Go.Proofs.YtbmnpjalekailaaW.PrintMore
attribute [local go_sem] max2_int min2_int max_two min_two max_three min_three max_four min_four   -- for this text's walks alone
set_option linter.unusedVariables false
set_option linter.unusedSimpArgs false

/-! ### item_Rank: function 18 -/
def item_Rank.j0 : Nat → Int → Bool → Option (Int)
  | 0, _, _ => none
  | k + 1, x4, x16 => if x16 = true then (some 8) else (if x4 = 5 then (some 9) else (some (-1)))
def item_Rank.f (k : Nat) (a0_0 : Int) (a0_1 : Int) (a0_2 : Int) (a0_3 : Int) (a0_4 : Int) (a0_5 : Int) (a0_6 : Int) (a0_7 : Int) : Option (Int) := if a0_6 = 1 then (some (wrap64 (2 * a0_5))) else (if a0_6 = 2 then (some (wrap64 ((wrap64 (2 * a0_5)) + 1))) else (if a0_6 = 3 then (item_Rank.j0 k a0_6 (a0_6 == 3)) else (item_Rank.j0 k a0_6 (a0_6 == 4))))
theorem item_Rank.mono_l : ∀ k, (∀ y0 y1, LeO (item_Rank.j0 k y0 y1) (item_Rank.j0 (k + 1) y0 y1))
  | 0 => fun _ _ r h => by simp [item_Rank.j0] at h
  | k + 1 => by
    have ih0 := item_Rank.mono_l k
    · intro y0 y1
      unfold item_Rank.j0
      repeat' first
      | (with_reducible exact ih0 _ _)
      | (with_reducible exact LeO.refl _)
      | (with_reducible exact LeO.none _)
      | (with_reducible refine LeO.ite ?_ ?_)
      | (with_reducible refine LeO.bind ?_ (fun _ => ?_))
      | exact ih0 _ _
      | exact LeO.none _
      | refine LeO.ite ?_ ?_
      | refine LeO.bind ?_ (fun _ => ?_)
theorem item_Rank.mono : ∀ a0 a1 a2 a3 a4 a5 a6 a7 k, LeO (item_Rank.f k a0 a1 a2 a3 a4 a5 a6 a7) (item_Rank.f (k + 1) a0 a1 a2 a3 a4 a5 a6 a7) := by
  intro a0 a1 a2 a3 a4 a5 a6 a7 k
  have ih0 := item_Rank.mono_l k
  unfold item_Rank.f
  repeat' first
      | (with_reducible exact ih0 _ _)
      | (with_reducible exact LeO.refl _)
      | (with_reducible exact LeO.none _)
      | (with_reducible refine LeO.ite ?_ ?_)
      | (with_reducible refine LeO.bind ?_ (fun _ => ?_))
      | exact ih0 _ _
      | exact LeO.none _
      | refine LeO.ite ?_ ?_
      | refine LeO.bind ?_ (fun _ => ?_)
set_option maxHeartbeats 8000000 in
set_option maxRecDepth 100000 in
theorem item_Rank.calls (k : Nat) (a0_0 : Int) (a0_1 : Int) (a0_2 : Int) (a0_3 : Int) (a0_4 : Int) (a0_5 : Int) (a0_6 : Int) (a0_7 : Int) (r : Int) (w : World) (h : item_Rank.f k a0_0 a0_1 a0_2 a0_3 a0_4 a0_5 a0_6 a0_7 = some r) :
    Calls Try.prog 18 #[.agg #[.int .i64 a0_0, .int .i64 a0_1, .int .i64 a0_2, .int .i64 a0_3, .int .i64 a0_4, .int .i64 a0_5, .int .i64 a0_6, .int .i64 a0_7]] w fun e w' => e = .returned (.int .i64 r) ∧ Below w.heap.size w w' := by
  have hu25 := Try.underlying25
  have HB := Aside0.mk (Below.refl w.heap.size w)
  have H : (if a0_6 = 1 then (some (wrap64 (2 * a0_5))) else (if a0_6 = 2 then (some (wrap64 ((wrap64 (2 * a0_5)) + 1))) else (if a0_6 = 3 then (item_Rank.j0 k a0_6 (a0_6 == 3)) else (item_Rank.j0 k a0_6 (a0_6 == 4))))) = some r := h
  clear h
  by_cases c2 : a0_6 = 1
  · rw [if_pos c2] at H
    have c2b0 : (a0_6 == 1) = true := beq_iff_eq.mpr c2
    have c2b1 : (a0_6 != 1) = false := bne_eq_false_iff_eq.mpr c2
    clear c2
    obtain rfl := Option.some.inj H
    go_enter Try.func18, Try.ntmps18
    go_wp2_with (first | ((with_reducible refine gate_dst (N := 1) rfl ?_); refine box_event ?hg (N := 1) ?hd (cs := #[.int .i64 a0_0, .int .i64 a0_1, .int .i64 a0_2, .int .i64 a0_3, .int .i64 a0_4, .int .i64 a0_5, .int .i64 a0_6, .int .i64 a0_7]) (t := 25) ?hr ?_; (case hd => rfl); (case hg => rfl); (case hr => first | (go_simp; done) | (go_simp; rfl)); intro gb294 hg w3 hbox hb; have n0_ := Aside0.mk (below_step (by repeat (first | (with_reducible first | exact HB.out | apply below_alloc | apply pw_below_drewN | apply below_drew1) | exact HB.out)) hb); have n1_ := Aside0.mk (hbox); have n2_ := Aside0.mk ((by rw [hg]; exact (below_size (by repeat (first | (with_reducible first | exact HB.out | apply below_alloc | apply pw_below_drewN | apply below_drew1) | exact HB.out))) : w.heap.size ≤ gb294)); have n3_ := Aside0.mk ((by rw [hg]; exact (below_size (by repeat (first | (with_reducible first | exact HB.out | apply below_alloc | apply pw_below_drewN | apply below_drew1) | exact HB.out))) : w.heap.size ≤ gb294)); clear HB; have HB := n0_; have BK294 := n1_; have GW294 := n2_; have GE294 := n3_; clear n0_ n1_ n2_ n3_; clear hb hbox hg; have hcz4_0 : w3.cell? ⟨gb294, 0, none⟩ = some (.int .i64 a0_0) := (blk_cell BK294.out 0).trans rfl; have hcz4_1 : w3.cell? ⟨gb294, 1, none⟩ = some (.int .i64 a0_1) := (blk_cell BK294.out 1).trans rfl; have hcz4_2 : w3.cell? ⟨gb294, 2, none⟩ = some (.int .i64 a0_2) := (blk_cell BK294.out 2).trans rfl; have hcz4_3 : w3.cell? ⟨gb294, 3, none⟩ = some (.int .i64 a0_3) := (blk_cell BK294.out 3).trans rfl; have hcz4_4 : w3.cell? ⟨gb294, 4, none⟩ = some (.int .i64 a0_4) := (blk_cell BK294.out 4).trans rfl; have hcz4_5 : w3.cell? ⟨gb294, 5, none⟩ = some (.int .i64 a0_5) := (blk_cell BK294.out 5).trans rfl; have hcz4_6 : w3.cell? ⟨gb294, 6, none⟩ = some (.int .i64 a0_6) := (blk_cell BK294.out 6).trans rfl; have hcz4_7 : w3.cell? ⟨gb294, 7, none⟩ = some (.int .i64 a0_7) := (blk_cell BK294.out 7).trans rfl; have hfz4_0 := blk_frozen BK294.out 0; have hfz4_1 := blk_frozen BK294.out 1; have hfz4_2 := blk_frozen BK294.out 2; have hfz4_3 := blk_frozen BK294.out 3; have hfz4_4 := blk_frozen BK294.out 4; have hfz4_5 := blk_frozen BK294.out 5; have hfz4_6 := blk_frozen BK294.out 6; have hfz4_7 := blk_frozen BK294.out 7))
    go_ret
    exact ⟨by first | rfl | (simp [errW_none, errW_some] <;> rfl) | (simp [*, errW_none, errW_some] <;> rfl), by repeat (first | (with_reducible first | exact HB.out | apply below_alloc | apply pw_below_drewN | apply below_drew1 | refine below_set ?_ GE294.out) | exact HB.out)⟩
  · rw [if_neg c2] at H
    have c2b0 : (a0_6 == 1) = false := beq_eq_false_iff_ne.mpr c2
    have c2b1 : (a0_6 != 1) = true := bne_iff_ne.mpr c2
    by_cases c5 : a0_6 = 2
    · rw [if_pos c5] at H
      have c5b0 : (a0_6 == 2) = true := beq_iff_eq.mpr c5
      have c5b1 : (a0_6 != 2) = false := bne_eq_false_iff_eq.mpr c5
      clear c5
      obtain rfl := Option.some.inj H
      go_enter Try.func18, Try.ntmps18
      go_wp2_with (first | ((with_reducible refine gate_dst (N := 1) rfl ?_); refine box_event ?hg (N := 1) ?hd (cs := #[.int .i64 a0_0, .int .i64 a0_1, .int .i64 a0_2, .int .i64 a0_3, .int .i64 a0_4, .int .i64 a0_5, .int .i64 a0_6, .int .i64 a0_7]) (t := 25) ?hr ?_; (case hd => rfl); (case hg => rfl); (case hr => first | (go_simp; done) | (go_simp; rfl)); intro gb294 hg w6 hbox hb; have n0_ := Aside0.mk (below_step (by repeat (first | (with_reducible first | exact HB.out | apply below_alloc | apply pw_below_drewN | apply below_drew1) | exact HB.out)) hb); have n1_ := Aside0.mk (hbox); have n2_ := Aside0.mk ((by rw [hg]; exact (below_size (by repeat (first | (with_reducible first | exact HB.out | apply below_alloc | apply pw_below_drewN | apply below_drew1) | exact HB.out))) : w.heap.size ≤ gb294)); have n3_ := Aside0.mk ((by rw [hg]; exact (below_size (by repeat (first | (with_reducible first | exact HB.out | apply below_alloc | apply pw_below_drewN | apply below_drew1) | exact HB.out))) : w.heap.size ≤ gb294)); clear HB; have HB := n0_; have BK294 := n1_; have GW294 := n2_; have GE294 := n3_; clear n0_ n1_ n2_ n3_; clear hb hbox hg; have hcz7_0 : w6.cell? ⟨gb294, 0, none⟩ = some (.int .i64 a0_0) := (blk_cell BK294.out 0).trans rfl; have hcz7_1 : w6.cell? ⟨gb294, 1, none⟩ = some (.int .i64 a0_1) := (blk_cell BK294.out 1).trans rfl; have hcz7_2 : w6.cell? ⟨gb294, 2, none⟩ = some (.int .i64 a0_2) := (blk_cell BK294.out 2).trans rfl; have hcz7_3 : w6.cell? ⟨gb294, 3, none⟩ = some (.int .i64 a0_3) := (blk_cell BK294.out 3).trans rfl; have hcz7_4 : w6.cell? ⟨gb294, 4, none⟩ = some (.int .i64 a0_4) := (blk_cell BK294.out 4).trans rfl; have hcz7_5 : w6.cell? ⟨gb294, 5, none⟩ = some (.int .i64 a0_5) := (blk_cell BK294.out 5).trans rfl; have hcz7_6 : w6.cell? ⟨gb294, 6, none⟩ = some (.int .i64 a0_6) := (blk_cell BK294.out 6).trans rfl; have hcz7_7 : w6.cell? ⟨gb294, 7, none⟩ = some (.int .i64 a0_7) := (blk_cell BK294.out 7).trans rfl; have hfz7_0 := blk_frozen BK294.out 0; have hfz7_1 := blk_frozen BK294.out 1; have hfz7_2 := blk_frozen BK294.out 2; have hfz7_3 := blk_frozen BK294.out 3; have hfz7_4 := blk_frozen BK294.out 4; have hfz7_5 := blk_frozen BK294.out 5; have hfz7_6 := blk_frozen BK294.out 6; have hfz7_7 := blk_frozen BK294.out 7))
      go_ret
      exact ⟨by first | rfl | (simp [errW_none, errW_some] <;> rfl) | (simp [*, errW_none, errW_some] <;> rfl), by repeat (first | (with_reducible first | exact HB.out | apply below_alloc | apply pw_below_drewN | apply below_drew1 | refine below_set ?_ GE294.out) | exact HB.out)⟩
    · rw [if_neg c5] at H
      have c5b0 : (a0_6 == 2) = false := beq_eq_false_iff_ne.mpr c5
      have c5b1 : (a0_6 != 2) = true := bne_iff_ne.mpr c5
      have HC8 := Aside0.mk H
      clear H
      go_enter Try.func18, Try.ntmps18
      go_upto_if 16 with (first | ((with_reducible refine gate_dst (N := 1) rfl ?_); refine box_event ?hg (N := 1) ?hd (cs := #[.int .i64 a0_0, .int .i64 a0_1, .int .i64 a0_2, .int .i64 a0_3, .int .i64 a0_4, .int .i64 a0_5, .int .i64 a0_6, .int .i64 a0_7]) (t := 25) ?hr ?_; (case hd => rfl); (case hg => rfl); (case hr => first | (go_simp; done) | (go_simp; rfl)); intro gb294 hg w9 hbox hb; have n0_ := Aside0.mk (below_step (by repeat (first | (with_reducible first | exact HB.out | apply below_alloc | apply pw_below_drewN | apply below_drew1) | exact HB.out)) hb); have n1_ := Aside0.mk (hbox); have n2_ := Aside0.mk ((by rw [hg]; exact (below_size (by repeat (first | (with_reducible first | exact HB.out | apply below_alloc | apply pw_below_drewN | apply below_drew1) | exact HB.out))) : w.heap.size ≤ gb294)); have n3_ := Aside0.mk ((by rw [hg]; exact (below_size (by repeat (first | (with_reducible first | exact HB.out | apply below_alloc | apply pw_below_drewN | apply below_drew1) | exact HB.out))) : w.heap.size ≤ gb294)); clear HB; have HB := n0_; have BK294 := n1_; have GW294 := n2_; have GE294 := n3_; clear n0_ n1_ n2_ n3_; clear hb hbox hg; have hcz10_0 : w9.cell? ⟨gb294, 0, none⟩ = some (.int .i64 a0_0) := (blk_cell BK294.out 0).trans rfl; have hcz10_1 : w9.cell? ⟨gb294, 1, none⟩ = some (.int .i64 a0_1) := (blk_cell BK294.out 1).trans rfl; have hcz10_2 : w9.cell? ⟨gb294, 2, none⟩ = some (.int .i64 a0_2) := (blk_cell BK294.out 2).trans rfl; have hcz10_3 : w9.cell? ⟨gb294, 3, none⟩ = some (.int .i64 a0_3) := (blk_cell BK294.out 3).trans rfl; have hcz10_4 : w9.cell? ⟨gb294, 4, none⟩ = some (.int .i64 a0_4) := (blk_cell BK294.out 4).trans rfl; have hcz10_5 : w9.cell? ⟨gb294, 5, none⟩ = some (.int .i64 a0_5) := (blk_cell BK294.out 5).trans rfl; have hcz10_6 : w9.cell? ⟨gb294, 6, none⟩ = some (.int .i64 a0_6) := (blk_cell BK294.out 6).trans rfl; have hcz10_7 : w9.cell? ⟨gb294, 7, none⟩ = some (.int .i64 a0_7) := (blk_cell BK294.out 7).trans rfl; have hfz10_0 := blk_frozen BK294.out 0; have hfz10_1 := blk_frozen BK294.out 1; have hfz10_2 := blk_frozen BK294.out 2; have hfz10_3 := blk_frozen BK294.out 3; have hfz10_4 := blk_frozen BK294.out 4; have hfz10_5 := blk_frozen BK294.out 5; have hfz10_6 := blk_frozen BK294.out 6; have hfz10_7 := blk_frozen BK294.out 7))
      (try simp only [Act.put, List.setIfInBounds_toArray, List.set_cons_zero, List.set_cons_succ])
      go_cut [16] (fun v16 wc => ∃ (kq : Nat) (x16_7 : Bool), v16 = .bool x16_7 ∧ Aside0 (item_Rank.j0 kq a0_6 x16_7 = some r) ∧ Aside0 (kq ≤ k) ∧ Aside0 (wc.heap[gb294]? = some (.cells #[.int .i64 a0_0, .int .i64 a0_1, .int .i64 a0_2, .int .i64 a0_3, .int .i64 a0_4, .int .i64 a0_5, .int .i64 a0_6, .int .i64 a0_7] 25 (0, 0))) ∧ Aside0 (Below w.heap.size w wc))
      case first =>
        have H := HC8.out
        clear HC8
        by_cases c11 : a0_6 = 3
        · rw [if_pos c11] at H
          have c11b0 : (a0_6 == 3) = true := beq_iff_eq.mpr c11
          have c11b1 : (a0_6 != 3) = false := bne_eq_false_iff_eq.mpr c11
          clear c11
          (first | rw [c11b0] | (simp only [i64_w, i32_w]; rw [c11b0]) | skip)
          have H' := Aside0.mk H
          clear H
          go_wp2
          go_meet
          case rel => exact ⟨_, ((a0_6 == 3)), (by first | rfl | (simp; done) | (simp [*]; done)), H', ⟨by first | omega | exact Nat.le_refl _⟩, ⟨by (with_reducible repeat (first | refine blk_drewN ?_ _ | refine blk_drew ?_ | refine blk_alloc ?_ _)); exact BK294.out⟩, ⟨by repeat (first | (with_reducible first | exact HB.out | apply below_alloc | apply pw_below_drewN | apply below_drew1 | refine below_set ?_ GE294.out) | exact HB.out)⟩⟩
        · rw [if_neg c11] at H
          have c11b0 : (a0_6 == 3) = false := beq_eq_false_iff_ne.mpr c11
          have c11b1 : (a0_6 != 3) = true := bne_iff_ne.mpr c11
          (first | rw [c11b0] | (simp only [i64_w, i32_w]; rw [c11b0]) | skip)
          have H' := Aside0.mk H
          clear H
          go_wp2
          go_meet
          case rel => exact ⟨_, ((a0_6 == 4)), (by first | rfl | (simp; done) | (simp [*]; done)), H', ⟨by first | omega | exact Nat.le_refl _⟩, ⟨by (with_reducible repeat (first | refine blk_drewN ?_ _ | refine blk_drew ?_ | refine blk_alloc ?_ _)); exact BK294.out⟩, ⟨by repeat (first | (with_reducible first | exact HB.out | apply below_alloc | apply pw_below_drewN | apply below_drew1 | refine below_set ?_ GE294.out) | exact HB.out)⟩⟩
      case rest =>
        clear HC8
        try clear c1
        try clear c2
        try clear c2b0
        try clear c2b1
        try clear p2
        try clear c5
        try clear c5b0
        try clear c5b1
        try clear p6
        try clear c11
        try clear c11b0
        try clear c11b1
        try clear hcz10_0
        try clear hcz10_1
        try clear hcz10_2
        try clear hcz10_3
        try clear hcz10_4
        try clear hcz10_5
        try clear hcz10_6
        try clear hcz10_7
        try clear hcz4_0
        try clear hcz4_1
        try clear hcz4_2
        try clear hcz4_3
        try clear hcz4_4
        try clear hcz4_5
        try clear hcz4_6
        try clear hcz4_7
        try clear hcz7_0
        try clear hcz7_1
        try clear hcz7_2
        try clear hcz7_3
        try clear hcz7_4
        try clear hcz7_5
        try clear hcz7_6
        try clear hcz7_7
        try clear hfz10_0
        try clear hfz10_1
        try clear hfz10_2
        try clear hfz10_3
        try clear hfz10_4
        try clear hfz10_5
        try clear hfz10_6
        try clear hfz10_7
        try clear hfz4_0
        try clear hfz4_1
        try clear hfz4_2
        try clear hfz4_3
        try clear hfz4_4
        try clear hfz4_5
        try clear hfz4_6
        try clear hfz4_7
        try clear hfz7_0
        try clear hfz7_1
        try clear hfz7_2
        try clear hfz7_3
        try clear hfz7_4
        try clear hfz7_5
        try clear hfz7_6
        try clear hfz7_7
        obtain ⟨kq, x16_7, rfl, HA, HJ7, BK294, HB⟩ := hcut
        cases kq with
        | zero => exact absurd HA.out (by simp [item_Rank.j0])
        | succ kj7 =>
          have H := HA.out
          clear HA
          simp only [item_Rank.j0] at H
          by_cases c12 : x16_7 = true
          · subst c12
            have H1 : (some 8) = some r := by rw [if_pos rfl] at H; exact H
            clear H
            have H := H1
            clear H1
            obtain rfl := Option.some.inj H
            go_wp2
            go_ret
            exact ⟨by first | rfl | (simp [errW_none, errW_some] <;> rfl) | (simp [*, errW_none, errW_some] <;> rfl), by repeat (first | (with_reducible first | exact HB.out | apply below_alloc | apply pw_below_drewN | apply below_drew1 | refine below_set ?_ GE294.out) | exact HB.out)⟩
          · replace c12 := Bool.eq_false_iff.mpr c12
            subst c12
            have H1 : (if a0_6 = 5 then (some 9) else (some (-1))) = some r := by rw [if_neg (show ¬ (false = true) by decide)] at H; exact H
            clear H
            have H := H1
            clear H1
            by_cases c13 : a0_6 = 5
            · rw [if_pos c13] at H
              have c13b0 : (a0_6 == 5) = true := beq_iff_eq.mpr c13
              have c13b1 : (a0_6 != 5) = false := bne_eq_false_iff_eq.mpr c13
              clear c13
              obtain rfl := Option.some.inj H
              go_wp2
              go_ret
              exact ⟨by first | rfl | (simp [errW_none, errW_some] <;> rfl) | (simp [*, errW_none, errW_some] <;> rfl), by repeat (first | (with_reducible first | exact HB.out | apply below_alloc | apply pw_below_drewN | apply below_drew1 | refine below_set ?_ GE294.out) | exact HB.out)⟩
            · rw [if_neg c13] at H
              have c13b0 : (a0_6 == 5) = false := beq_eq_false_iff_ne.mpr c13
              have c13b1 : (a0_6 != 5) = true := bne_iff_ne.mpr c13
              obtain rfl := Option.some.inj H
              go_wp2
              go_ret
              exact ⟨by first | rfl | (simp [errW_none, errW_some] <;> rfl) | (simp [*, errW_none, errW_some] <;> rfl), by repeat (first | (with_reducible first | exact HB.out | apply below_alloc | apply pw_below_drewN | apply below_drew1 | refine below_set ?_ GE294.out) | exact HB.out)⟩

/-! ### contraref09_Rank: function 19 -/
mutual
def contraref09_Rank.j0 : Nat → Bool → Int → Int → Int → Int → Int → Int → Int → Int → Option (Int)
  | 0, _, _, _, _, _, _, _, _, _ => none
  | k + 1, x10, x296000, x296001, x296002, x296003, x296004, x296005, x296006, x296007 => if x10 = true then (some (wrap64 ((wrap64 ((wrap64 (2 * x296005)) + x296006)) - 1))) else (if x296006 = 3 then (contraref09_Rank.j1 k true x296000 x296001 x296002 x296003 x296004 x296005 x296006 x296007) else (contraref09_Rank.j1 k (x296006 == 4) x296000 x296001 x296002 x296003 x296004 x296005 x296006 x296007))
def contraref09_Rank.j1 : Nat → Bool → Int → Int → Int → Int → Int → Int → Int → Int → Option (Int)
  | 0, _, _, _, _, _, _, _, _, _ => none
  | k + 1, x25, x296000, x296001, x296002, x296003, x296004, x296005, x296006, x296007 => if x25 = true then (some 8) else (if x296006 = 5 then (some 9) else (some (-1)))
end
def contraref09_Rank.f (k : Nat) (a0_0 : Int) (a0_1 : Int) (a0_2 : Int) (a0_3 : Int) (a0_4 : Int) (a0_5 : Int) (a0_6 : Int) (a0_7 : Int) : Option (Int) := if a0_6 = 1 then (contraref09_Rank.j0 k true a0_0 a0_1 a0_2 a0_3 a0_4 a0_5 a0_6 a0_7) else (contraref09_Rank.j0 k (a0_6 == 2) a0_0 a0_1 a0_2 a0_3 a0_4 a0_5 a0_6 a0_7)
theorem contraref09_Rank.mono_l : ∀ k, (∀ y0 y1 y2 y3 y4 y5 y6 y7 y8, LeO (contraref09_Rank.j0 k y0 y1 y2 y3 y4 y5 y6 y7 y8) (contraref09_Rank.j0 (k + 1) y0 y1 y2 y3 y4 y5 y6 y7 y8)) ∧ (∀ y0 y1 y2 y3 y4 y5 y6 y7 y8, LeO (contraref09_Rank.j1 k y0 y1 y2 y3 y4 y5 y6 y7 y8) (contraref09_Rank.j1 (k + 1) y0 y1 y2 y3 y4 y5 y6 y7 y8))
  | 0 => ⟨fun _ _ _ _ _ _ _ _ _ r h => by simp [contraref09_Rank.j0] at h, fun _ _ _ _ _ _ _ _ _ r h => by simp [contraref09_Rank.j1] at h⟩
  | k + 1 => by
    obtain ⟨ih0, ih1⟩ := contraref09_Rank.mono_l k
    refine ⟨?_, ?_⟩
    · intro y0 y1 y2 y3 y4 y5 y6 y7 y8
      unfold contraref09_Rank.j0
      repeat' first
      | (with_reducible exact ih0 _ _ _ _ _ _ _ _ _)
      | (with_reducible exact ih1 _ _ _ _ _ _ _ _ _)
      | (with_reducible exact LeO.refl _)
      | (with_reducible exact LeO.none _)
      | (with_reducible refine LeO.ite ?_ ?_)
      | (with_reducible refine LeO.bind ?_ (fun _ => ?_))
      | exact ih0 _ _ _ _ _ _ _ _ _
      | exact ih1 _ _ _ _ _ _ _ _ _
      | exact LeO.none _
      | refine LeO.ite ?_ ?_
      | refine LeO.bind ?_ (fun _ => ?_)
    · intro y0 y1 y2 y3 y4 y5 y6 y7 y8
      unfold contraref09_Rank.j1
      repeat' first
      | (with_reducible exact ih0 _ _ _ _ _ _ _ _ _)
      | (with_reducible exact ih1 _ _ _ _ _ _ _ _ _)
      | (with_reducible exact LeO.refl _)
      | (with_reducible exact LeO.none _)
      | (with_reducible refine LeO.ite ?_ ?_)
      | (with_reducible refine LeO.bind ?_ (fun _ => ?_))
      | exact ih0 _ _ _ _ _ _ _ _ _
      | exact ih1 _ _ _ _ _ _ _ _ _
      | exact LeO.none _
      | refine LeO.ite ?_ ?_
      | refine LeO.bind ?_ (fun _ => ?_)
theorem contraref09_Rank.mono : ∀ a0 a1 a2 a3 a4 a5 a6 a7 k, LeO (contraref09_Rank.f k a0 a1 a2 a3 a4 a5 a6 a7) (contraref09_Rank.f (k + 1) a0 a1 a2 a3 a4 a5 a6 a7) := by
  intro a0 a1 a2 a3 a4 a5 a6 a7 k
  obtain ⟨ih0, ih1⟩ := contraref09_Rank.mono_l k
  unfold contraref09_Rank.f
  repeat' first
      | (with_reducible exact ih0 _ _ _ _ _ _ _ _ _)
      | (with_reducible exact ih1 _ _ _ _ _ _ _ _ _)
      | (with_reducible exact LeO.refl _)
      | (with_reducible exact LeO.none _)
      | (with_reducible refine LeO.ite ?_ ?_)
      | (with_reducible refine LeO.bind ?_ (fun _ => ?_))
      | exact ih0 _ _ _ _ _ _ _ _ _
      | exact ih1 _ _ _ _ _ _ _ _ _
      | exact LeO.none _
      | refine LeO.ite ?_ ?_
      | refine LeO.bind ?_ (fun _ => ?_)
set_option maxHeartbeats 8000000 in
set_option maxRecDepth 100000 in
theorem contraref09_Rank.calls (k : Nat) (a0_0 : Int) (a0_1 : Int) (a0_2 : Int) (a0_3 : Int) (a0_4 : Int) (a0_5 : Int) (a0_6 : Int) (a0_7 : Int) (r : Int) (w : World) (h : contraref09_Rank.f k a0_0 a0_1 a0_2 a0_3 a0_4 a0_5 a0_6 a0_7 = some r) :
    Calls Try.prog 19 #[.agg #[.int .i64 a0_0, .int .i64 a0_1, .int .i64 a0_2, .int .i64 a0_3, .int .i64 a0_4, .int .i64 a0_5, .int .i64 a0_6, .int .i64 a0_7]] w fun e w' => e = .returned (.int .i64 r) ∧ Below w.heap.size w w' := by
  have hu25 := Try.underlying25
  have HB := Aside0.mk (Below.refl w.heap.size w)
  have H : (if a0_6 = 1 then (contraref09_Rank.j0 k true a0_0 a0_1 a0_2 a0_3 a0_4 a0_5 a0_6 a0_7) else (contraref09_Rank.j0 k (a0_6 == 2) a0_0 a0_1 a0_2 a0_3 a0_4 a0_5 a0_6 a0_7)) = some r := h
  clear h
  have HC2 := Aside0.mk H
  clear H
  go_enter Try.func19, Try.ntmps19
  go_upto_region 1 with (first | ((with_reducible refine gate_dst (N := 1) rfl ?_); refine box_event ?hg (N := 1) ?hd (cs := #[.int .i64 a0_0, .int .i64 a0_1, .int .i64 a0_2, .int .i64 a0_3, .int .i64 a0_4, .int .i64 a0_5, .int .i64 a0_6, .int .i64 a0_7]) (t := 25) ?hr ?_; (case hd => rfl); (case hg => rfl); (case hr => first | (go_simp; done) | (go_simp; rfl)); intro gb295 hg w3 hbox hb; have n0_ := Aside0.mk (below_step (by repeat (first | (with_reducible first | exact HB.out | apply below_alloc | apply pw_below_drewN | apply below_drew1) | exact HB.out)) hb); have n1_ := Aside0.mk (hbox); have n2_ := Aside0.mk ((by rw [hg]; exact (below_size (by repeat (first | (with_reducible first | exact HB.out | apply below_alloc | apply pw_below_drewN | apply below_drew1) | exact HB.out))) : w.heap.size ≤ gb295)); have n3_ := Aside0.mk ((by rw [hg]; exact (below_size (by repeat (first | (with_reducible first | exact HB.out | apply below_alloc | apply pw_below_drewN | apply below_drew1) | exact HB.out))) : w.heap.size ≤ gb295)); clear HB; have HB := n0_; have BK295 := n1_; have GW295 := n2_; have GE295 := n3_; clear n0_ n1_ n2_ n3_; clear hb hbox hg))
  (try simp only [Act.put, List.setIfInBounds_toArray, List.set_cons_zero, List.set_cons_succ])
  go_cut [10] (fun v10 wc => ∃ (kq : Nat) (x10_1 : Bool), v10 = .bool x10_1 ∧ Aside0 (contraref09_Rank.j0 kq x10_1 a0_0 a0_1 a0_2 a0_3 a0_4 a0_5 a0_6 a0_7 = some r) ∧ Aside0 (kq ≤ k) ∧ Aside0 (wc.heap[gb295]? = some (.cells #[.int .i64 a0_0, .int .i64 a0_1, .int .i64 a0_2, .int .i64 a0_3, .int .i64 a0_4, .int .i64 a0_5, .int .i64 a0_6, .int .i64 a0_7] 25 (0, 0))) ∧ Aside0 (Below w.heap.size w wc))
  case first =>
    have H := HC2.out
    clear HC2
    by_cases c4 : a0_6 = 1
    · rw [if_pos c4] at H
      have c4b0 : (a0_6 == 1) = true := beq_iff_eq.mpr c4
      have c4b1 : (a0_6 != 1) = false := bne_eq_false_iff_eq.mpr c4
      clear c4
      (first | rw [c4b0] | (simp only [i64_w, i32_w]; rw [c4b0]) | skip)
      have H' := Aside0.mk H
      clear H
      have hcz5_0 : w3.cell? ⟨gb295, 0, none⟩ = some (.int .i64 a0_0) := (blk_cell BK295.out 0).trans rfl
      have hcz5_1 : w3.cell? ⟨gb295, 1, none⟩ = some (.int .i64 a0_1) := (blk_cell BK295.out 1).trans rfl
      have hcz5_2 : w3.cell? ⟨gb295, 2, none⟩ = some (.int .i64 a0_2) := (blk_cell BK295.out 2).trans rfl
      have hcz5_3 : w3.cell? ⟨gb295, 3, none⟩ = some (.int .i64 a0_3) := (blk_cell BK295.out 3).trans rfl
      have hcz5_4 : w3.cell? ⟨gb295, 4, none⟩ = some (.int .i64 a0_4) := (blk_cell BK295.out 4).trans rfl
      have hcz5_5 : w3.cell? ⟨gb295, 5, none⟩ = some (.int .i64 a0_5) := (blk_cell BK295.out 5).trans rfl
      have hcz5_6 : w3.cell? ⟨gb295, 6, none⟩ = some (.int .i64 a0_6) := (blk_cell BK295.out 6).trans rfl
      have hcz5_7 : w3.cell? ⟨gb295, 7, none⟩ = some (.int .i64 a0_7) := (blk_cell BK295.out 7).trans rfl
      have hfz5_0 := blk_frozen BK295.out 0
      have hfz5_1 := blk_frozen BK295.out 1
      have hfz5_2 := blk_frozen BK295.out 2
      have hfz5_3 := blk_frozen BK295.out 3
      have hfz5_4 := blk_frozen BK295.out 4
      have hfz5_5 := blk_frozen BK295.out 5
      have hfz5_6 := blk_frozen BK295.out 6
      have hfz5_7 := blk_frozen BK295.out 7
      go_wp2
      go_meet
      case rel => exact ⟨_, (true), (by first | rfl | (simp; done) | (simp [*]; done)), H', ⟨by first | omega | exact Nat.le_refl _⟩, ⟨by (with_reducible repeat (first | refine blk_drewN ?_ _ | refine blk_drew ?_ | refine blk_alloc ?_ _)); exact BK295.out⟩, ⟨by repeat (first | (with_reducible first | exact HB.out | apply below_alloc | apply pw_below_drewN | apply below_drew1 | refine below_set ?_ GE295.out) | exact HB.out)⟩⟩
    · rw [if_neg c4] at H
      have c4b0 : (a0_6 == 1) = false := beq_eq_false_iff_ne.mpr c4
      have c4b1 : (a0_6 != 1) = true := bne_iff_ne.mpr c4
      (first | rw [c4b0] | (simp only [i64_w, i32_w]; rw [c4b0]) | skip)
      have H' := Aside0.mk H
      clear H
      have hcz6_0 : w3.cell? ⟨gb295, 0, none⟩ = some (.int .i64 a0_0) := (blk_cell BK295.out 0).trans rfl
      have hcz6_1 : w3.cell? ⟨gb295, 1, none⟩ = some (.int .i64 a0_1) := (blk_cell BK295.out 1).trans rfl
      have hcz6_2 : w3.cell? ⟨gb295, 2, none⟩ = some (.int .i64 a0_2) := (blk_cell BK295.out 2).trans rfl
      have hcz6_3 : w3.cell? ⟨gb295, 3, none⟩ = some (.int .i64 a0_3) := (blk_cell BK295.out 3).trans rfl
      have hcz6_4 : w3.cell? ⟨gb295, 4, none⟩ = some (.int .i64 a0_4) := (blk_cell BK295.out 4).trans rfl
      have hcz6_5 : w3.cell? ⟨gb295, 5, none⟩ = some (.int .i64 a0_5) := (blk_cell BK295.out 5).trans rfl
      have hcz6_6 : w3.cell? ⟨gb295, 6, none⟩ = some (.int .i64 a0_6) := (blk_cell BK295.out 6).trans rfl
      have hcz6_7 : w3.cell? ⟨gb295, 7, none⟩ = some (.int .i64 a0_7) := (blk_cell BK295.out 7).trans rfl
      have hfz6_0 := blk_frozen BK295.out 0
      have hfz6_1 := blk_frozen BK295.out 1
      have hfz6_2 := blk_frozen BK295.out 2
      have hfz6_3 := blk_frozen BK295.out 3
      have hfz6_4 := blk_frozen BK295.out 4
      have hfz6_5 := blk_frozen BK295.out 5
      have hfz6_6 := blk_frozen BK295.out 6
      have hfz6_7 := blk_frozen BK295.out 7
      go_wp2
      go_meet
      case rel => exact ⟨_, ((a0_6 == 2)), (by first | rfl | (simp; done) | (simp [*]; done)), H', ⟨by first | omega | exact Nat.le_refl _⟩, ⟨by (with_reducible repeat (first | refine blk_drewN ?_ _ | refine blk_drew ?_ | refine blk_alloc ?_ _)); exact BK295.out⟩, ⟨by repeat (first | (with_reducible first | exact HB.out | apply below_alloc | apply pw_below_drewN | apply below_drew1 | refine below_set ?_ GE295.out) | exact HB.out)⟩⟩
  case rest =>
    clear HC2
    try clear c1
    try clear p2
    try clear c4
    try clear c4b0
    try clear c4b1
    try clear hcz5_0
    try clear hcz5_1
    try clear hcz5_2
    try clear hcz5_3
    try clear hcz5_4
    try clear hcz5_5
    try clear hcz5_6
    try clear hcz5_7
    try clear hcz6_0
    try clear hcz6_1
    try clear hcz6_2
    try clear hcz6_3
    try clear hcz6_4
    try clear hcz6_5
    try clear hcz6_6
    try clear hcz6_7
    try clear hfz5_0
    try clear hfz5_1
    try clear hfz5_2
    try clear hfz5_3
    try clear hfz5_4
    try clear hfz5_5
    try clear hfz5_6
    try clear hfz5_7
    try clear hfz6_0
    try clear hfz6_1
    try clear hfz6_2
    try clear hfz6_3
    try clear hfz6_4
    try clear hfz6_5
    try clear hfz6_6
    try clear hfz6_7
    obtain ⟨kq, x10_1, rfl, HA, HJ1, BK295, HB⟩ := hcut
    cases kq with
    | zero => exact absurd HA.out (by simp [contraref09_Rank.j0])
    | succ kj1 =>
      have H := HA.out
      clear HA
      simp only [contraref09_Rank.j0] at H
      by_cases c7 : x10_1 = true
      · subst c7
        have H1 : (some (wrap64 ((wrap64 ((wrap64 (2 * a0_5)) + a0_6)) - 1))) = some r := by rw [if_pos rfl] at H; exact H
        clear H
        have H := H1
        clear H1
        obtain rfl := Option.some.inj H
        have hcz8_0 : wc.cell? ⟨gb295, 0, none⟩ = some (.int .i64 a0_0) := (blk_cell BK295.out 0).trans rfl
        have hcz8_1 : wc.cell? ⟨gb295, 1, none⟩ = some (.int .i64 a0_1) := (blk_cell BK295.out 1).trans rfl
        have hcz8_2 : wc.cell? ⟨gb295, 2, none⟩ = some (.int .i64 a0_2) := (blk_cell BK295.out 2).trans rfl
        have hcz8_3 : wc.cell? ⟨gb295, 3, none⟩ = some (.int .i64 a0_3) := (blk_cell BK295.out 3).trans rfl
        have hcz8_4 : wc.cell? ⟨gb295, 4, none⟩ = some (.int .i64 a0_4) := (blk_cell BK295.out 4).trans rfl
        have hcz8_5 : wc.cell? ⟨gb295, 5, none⟩ = some (.int .i64 a0_5) := (blk_cell BK295.out 5).trans rfl
        have hcz8_6 : wc.cell? ⟨gb295, 6, none⟩ = some (.int .i64 a0_6) := (blk_cell BK295.out 6).trans rfl
        have hcz8_7 : wc.cell? ⟨gb295, 7, none⟩ = some (.int .i64 a0_7) := (blk_cell BK295.out 7).trans rfl
        have hfz8_0 := blk_frozen BK295.out 0
        have hfz8_1 := blk_frozen BK295.out 1
        have hfz8_2 := blk_frozen BK295.out 2
        have hfz8_3 := blk_frozen BK295.out 3
        have hfz8_4 := blk_frozen BK295.out 4
        have hfz8_5 := blk_frozen BK295.out 5
        have hfz8_6 := blk_frozen BK295.out 6
        have hfz8_7 := blk_frozen BK295.out 7
        go_wp2
        go_ret
        exact ⟨by first | rfl | (simp [errW_none, errW_some] <;> rfl) | (simp [*, errW_none, errW_some] <;> rfl), by repeat (first | (with_reducible first | exact HB.out | apply below_alloc | apply pw_below_drewN | apply below_drew1 | refine below_set ?_ GE295.out) | exact HB.out)⟩
      · replace c7 := Bool.eq_false_iff.mpr c7
        subst c7
        have H1 : (if a0_6 = 3 then (contraref09_Rank.j1 kj1 true a0_0 a0_1 a0_2 a0_3 a0_4 a0_5 a0_6 a0_7) else (contraref09_Rank.j1 kj1 (a0_6 == 4) a0_0 a0_1 a0_2 a0_3 a0_4 a0_5 a0_6 a0_7)) = some r := by rw [if_neg (show ¬ (false = true) by decide)] at H; exact H
        clear H
        have H := H1
        clear H1
        have HC9 := Aside0.mk H
        clear H
        go_upto_region 3 with (fail)
        go_cut [25] (fun v25 wc => ∃ (kq : Nat) (x25_8 : Bool), v25 = .bool x25_8 ∧ Aside0 (contraref09_Rank.j1 kq x25_8 a0_0 a0_1 a0_2 a0_3 a0_4 a0_5 a0_6 a0_7 = some r) ∧ Aside0 (kq ≤ kj1) ∧ Aside0 (wc.heap[gb295]? = some (.cells #[.int .i64 a0_0, .int .i64 a0_1, .int .i64 a0_2, .int .i64 a0_3, .int .i64 a0_4, .int .i64 a0_5, .int .i64 a0_6, .int .i64 a0_7] 25 (0, 0))) ∧ Aside0 (Below w.heap.size w wc))
        case first =>
          have H := HC9.out
          clear HC9
          by_cases c10 : a0_6 = 3
          · rw [if_pos c10] at H
            have c10b0 : (a0_6 == 3) = true := beq_iff_eq.mpr c10
            have c10b1 : (a0_6 != 3) = false := bne_eq_false_iff_eq.mpr c10
            clear c10
            (first | rw [c10b0] | (simp only [i64_w, i32_w]; rw [c10b0]) | skip)
            have H' := Aside0.mk H
            clear H
            have hcz11_0 : wc.cell? ⟨gb295, 0, none⟩ = some (.int .i64 a0_0) := (blk_cell BK295.out 0).trans rfl
            have hcz11_1 : wc.cell? ⟨gb295, 1, none⟩ = some (.int .i64 a0_1) := (blk_cell BK295.out 1).trans rfl
            have hcz11_2 : wc.cell? ⟨gb295, 2, none⟩ = some (.int .i64 a0_2) := (blk_cell BK295.out 2).trans rfl
            have hcz11_3 : wc.cell? ⟨gb295, 3, none⟩ = some (.int .i64 a0_3) := (blk_cell BK295.out 3).trans rfl
            have hcz11_4 : wc.cell? ⟨gb295, 4, none⟩ = some (.int .i64 a0_4) := (blk_cell BK295.out 4).trans rfl
            have hcz11_5 : wc.cell? ⟨gb295, 5, none⟩ = some (.int .i64 a0_5) := (blk_cell BK295.out 5).trans rfl
            have hcz11_6 : wc.cell? ⟨gb295, 6, none⟩ = some (.int .i64 a0_6) := (blk_cell BK295.out 6).trans rfl
            have hcz11_7 : wc.cell? ⟨gb295, 7, none⟩ = some (.int .i64 a0_7) := (blk_cell BK295.out 7).trans rfl
            have hfz11_0 := blk_frozen BK295.out 0
            have hfz11_1 := blk_frozen BK295.out 1
            have hfz11_2 := blk_frozen BK295.out 2
            have hfz11_3 := blk_frozen BK295.out 3
            have hfz11_4 := blk_frozen BK295.out 4
            have hfz11_5 := blk_frozen BK295.out 5
            have hfz11_6 := blk_frozen BK295.out 6
            have hfz11_7 := blk_frozen BK295.out 7
            go_wp2
            go_meet
            case rel => exact ⟨_, (true), (by first | rfl | (simp; done) | (simp [*]; done)), H', ⟨by have := HJ1.out; first | omega | exact Nat.le_refl _⟩, ⟨by (with_reducible repeat (first | refine blk_drewN ?_ _ | refine blk_drew ?_ | refine blk_alloc ?_ _)); exact BK295.out⟩, ⟨by repeat (first | (with_reducible first | exact HB.out | apply below_alloc | apply pw_below_drewN | apply below_drew1 | refine below_set ?_ GE295.out) | exact HB.out)⟩⟩
          · rw [if_neg c10] at H
            have c10b0 : (a0_6 == 3) = false := beq_eq_false_iff_ne.mpr c10
            have c10b1 : (a0_6 != 3) = true := bne_iff_ne.mpr c10
            (first | rw [c10b0] | (simp only [i64_w, i32_w]; rw [c10b0]) | skip)
            have H' := Aside0.mk H
            clear H
            have hcz12_0 : wc.cell? ⟨gb295, 0, none⟩ = some (.int .i64 a0_0) := (blk_cell BK295.out 0).trans rfl
            have hcz12_1 : wc.cell? ⟨gb295, 1, none⟩ = some (.int .i64 a0_1) := (blk_cell BK295.out 1).trans rfl
            have hcz12_2 : wc.cell? ⟨gb295, 2, none⟩ = some (.int .i64 a0_2) := (blk_cell BK295.out 2).trans rfl
            have hcz12_3 : wc.cell? ⟨gb295, 3, none⟩ = some (.int .i64 a0_3) := (blk_cell BK295.out 3).trans rfl
            have hcz12_4 : wc.cell? ⟨gb295, 4, none⟩ = some (.int .i64 a0_4) := (blk_cell BK295.out 4).trans rfl
            have hcz12_5 : wc.cell? ⟨gb295, 5, none⟩ = some (.int .i64 a0_5) := (blk_cell BK295.out 5).trans rfl
            have hcz12_6 : wc.cell? ⟨gb295, 6, none⟩ = some (.int .i64 a0_6) := (blk_cell BK295.out 6).trans rfl
            have hcz12_7 : wc.cell? ⟨gb295, 7, none⟩ = some (.int .i64 a0_7) := (blk_cell BK295.out 7).trans rfl
            have hfz12_0 := blk_frozen BK295.out 0
            have hfz12_1 := blk_frozen BK295.out 1
            have hfz12_2 := blk_frozen BK295.out 2
            have hfz12_3 := blk_frozen BK295.out 3
            have hfz12_4 := blk_frozen BK295.out 4
            have hfz12_5 := blk_frozen BK295.out 5
            have hfz12_6 := blk_frozen BK295.out 6
            have hfz12_7 := blk_frozen BK295.out 7
            go_wp2
            go_meet
            case rel => exact ⟨_, ((a0_6 == 4)), (by first | rfl | (simp; done) | (simp [*]; done)), H', ⟨by have := HJ1.out; first | omega | exact Nat.le_refl _⟩, ⟨by (with_reducible repeat (first | refine blk_drewN ?_ _ | refine blk_drew ?_ | refine blk_alloc ?_ _)); exact BK295.out⟩, ⟨by repeat (first | (with_reducible first | exact HB.out | apply below_alloc | apply pw_below_drewN | apply below_drew1 | refine below_set ?_ GE295.out) | exact HB.out)⟩⟩
        case rest =>
          clear HC9
          try clear c1
          try clear p2
          try clear c4
          try clear c4b0
          try clear c4b1
          try clear p6
          try clear c7
          try clear c10
          try clear c10b0
          try clear c10b1
          try clear hcz11_0
          try clear hcz11_1
          try clear hcz11_2
          try clear hcz11_3
          try clear hcz11_4
          try clear hcz11_5
          try clear hcz11_6
          try clear hcz11_7
          try clear hcz12_0
          try clear hcz12_1
          try clear hcz12_2
          try clear hcz12_3
          try clear hcz12_4
          try clear hcz12_5
          try clear hcz12_6
          try clear hcz12_7
          try clear hcz5_0
          try clear hcz5_1
          try clear hcz5_2
          try clear hcz5_3
          try clear hcz5_4
          try clear hcz5_5
          try clear hcz5_6
          try clear hcz5_7
          try clear hcz6_0
          try clear hcz6_1
          try clear hcz6_2
          try clear hcz6_3
          try clear hcz6_4
          try clear hcz6_5
          try clear hcz6_6
          try clear hcz6_7
          try clear hcz8_0
          try clear hcz8_1
          try clear hcz8_2
          try clear hcz8_3
          try clear hcz8_4
          try clear hcz8_5
          try clear hcz8_6
          try clear hcz8_7
          try clear hfz11_0
          try clear hfz11_1
          try clear hfz11_2
          try clear hfz11_3
          try clear hfz11_4
          try clear hfz11_5
          try clear hfz11_6
          try clear hfz11_7
          try clear hfz12_0
          try clear hfz12_1
          try clear hfz12_2
          try clear hfz12_3
          try clear hfz12_4
          try clear hfz12_5
          try clear hfz12_6
          try clear hfz12_7
          try clear hfz5_0
          try clear hfz5_1
          try clear hfz5_2
          try clear hfz5_3
          try clear hfz5_4
          try clear hfz5_5
          try clear hfz5_6
          try clear hfz5_7
          try clear hfz6_0
          try clear hfz6_1
          try clear hfz6_2
          try clear hfz6_3
          try clear hfz6_4
          try clear hfz6_5
          try clear hfz6_6
          try clear hfz6_7
          try clear hfz8_0
          try clear hfz8_1
          try clear hfz8_2
          try clear hfz8_3
          try clear hfz8_4
          try clear hfz8_5
          try clear hfz8_6
          try clear hfz8_7
          try clear p2
          obtain ⟨kq, x25_8, rfl, HA, HJ8, BK295, HB⟩ := hcut
          cases kq with
          | zero => exact absurd HA.out (by simp [contraref09_Rank.j1])
          | succ kj8 =>
            have H := HA.out
            clear HA
            simp only [contraref09_Rank.j1] at H
            by_cases c13 : x25_8 = true
            · subst c13
              have H1 : (some 8) = some r := by rw [if_pos rfl] at H; exact H
              clear H
              have H := H1
              clear H1
              obtain rfl := Option.some.inj H
              go_wp2
              go_ret
              exact ⟨by first | rfl | (simp [errW_none, errW_some] <;> rfl) | (simp [*, errW_none, errW_some] <;> rfl), by repeat (first | (with_reducible first | exact HB.out | apply below_alloc | apply pw_below_drewN | apply below_drew1 | refine below_set ?_ GE295.out) | exact HB.out)⟩
            · replace c13 := Bool.eq_false_iff.mpr c13
              subst c13
              have H1 : (if a0_6 = 5 then (some 9) else (some (-1))) = some r := by rw [if_neg (show ¬ (false = true) by decide)] at H; exact H
              clear H
              have H := H1
              clear H1
              by_cases c14 : a0_6 = 5
              · rw [if_pos c14] at H
                have c14b0 : (a0_6 == 5) = true := beq_iff_eq.mpr c14
                have c14b1 : (a0_6 != 5) = false := bne_eq_false_iff_eq.mpr c14
                clear c14
                obtain rfl := Option.some.inj H
                have hcz15_0 : wc.cell? ⟨gb295, 0, none⟩ = some (.int .i64 a0_0) := (blk_cell BK295.out 0).trans rfl
                have hcz15_1 : wc.cell? ⟨gb295, 1, none⟩ = some (.int .i64 a0_1) := (blk_cell BK295.out 1).trans rfl
                have hcz15_2 : wc.cell? ⟨gb295, 2, none⟩ = some (.int .i64 a0_2) := (blk_cell BK295.out 2).trans rfl
                have hcz15_3 : wc.cell? ⟨gb295, 3, none⟩ = some (.int .i64 a0_3) := (blk_cell BK295.out 3).trans rfl
                have hcz15_4 : wc.cell? ⟨gb295, 4, none⟩ = some (.int .i64 a0_4) := (blk_cell BK295.out 4).trans rfl
                have hcz15_5 : wc.cell? ⟨gb295, 5, none⟩ = some (.int .i64 a0_5) := (blk_cell BK295.out 5).trans rfl
                have hcz15_6 : wc.cell? ⟨gb295, 6, none⟩ = some (.int .i64 a0_6) := (blk_cell BK295.out 6).trans rfl
                have hcz15_7 : wc.cell? ⟨gb295, 7, none⟩ = some (.int .i64 a0_7) := (blk_cell BK295.out 7).trans rfl
                have hfz15_0 := blk_frozen BK295.out 0
                have hfz15_1 := blk_frozen BK295.out 1
                have hfz15_2 := blk_frozen BK295.out 2
                have hfz15_3 := blk_frozen BK295.out 3
                have hfz15_4 := blk_frozen BK295.out 4
                have hfz15_5 := blk_frozen BK295.out 5
                have hfz15_6 := blk_frozen BK295.out 6
                have hfz15_7 := blk_frozen BK295.out 7
                go_wp2
                go_ret
                exact ⟨by first | rfl | (simp [errW_none, errW_some] <;> rfl) | (simp [*, errW_none, errW_some] <;> rfl), by repeat (first | (with_reducible first | exact HB.out | apply below_alloc | apply pw_below_drewN | apply below_drew1 | refine below_set ?_ GE295.out) | exact HB.out)⟩
              · rw [if_neg c14] at H
                have c14b0 : (a0_6 == 5) = false := beq_eq_false_iff_ne.mpr c14
                have c14b1 : (a0_6 != 5) = true := bne_iff_ne.mpr c14
                obtain rfl := Option.some.inj H
                have hcz16_0 : wc.cell? ⟨gb295, 0, none⟩ = some (.int .i64 a0_0) := (blk_cell BK295.out 0).trans rfl
                have hcz16_1 : wc.cell? ⟨gb295, 1, none⟩ = some (.int .i64 a0_1) := (blk_cell BK295.out 1).trans rfl
                have hcz16_2 : wc.cell? ⟨gb295, 2, none⟩ = some (.int .i64 a0_2) := (blk_cell BK295.out 2).trans rfl
                have hcz16_3 : wc.cell? ⟨gb295, 3, none⟩ = some (.int .i64 a0_3) := (blk_cell BK295.out 3).trans rfl
                have hcz16_4 : wc.cell? ⟨gb295, 4, none⟩ = some (.int .i64 a0_4) := (blk_cell BK295.out 4).trans rfl
                have hcz16_5 : wc.cell? ⟨gb295, 5, none⟩ = some (.int .i64 a0_5) := (blk_cell BK295.out 5).trans rfl
                have hcz16_6 : wc.cell? ⟨gb295, 6, none⟩ = some (.int .i64 a0_6) := (blk_cell BK295.out 6).trans rfl
                have hcz16_7 : wc.cell? ⟨gb295, 7, none⟩ = some (.int .i64 a0_7) := (blk_cell BK295.out 7).trans rfl
                have hfz16_0 := blk_frozen BK295.out 0
                have hfz16_1 := blk_frozen BK295.out 1
                have hfz16_2 := blk_frozen BK295.out 2
                have hfz16_3 := blk_frozen BK295.out 3
                have hfz16_4 := blk_frozen BK295.out 4
                have hfz16_5 := blk_frozen BK295.out 5
                have hfz16_6 := blk_frozen BK295.out 6
                have hfz16_7 := blk_frozen BK295.out 7
                go_wp2
                go_ret
                exact ⟨by first | rfl | (simp [errW_none, errW_some] <;> rfl) | (simp [*, errW_none, errW_some] <;> rfl), by repeat (first | (with_reducible first | exact HB.out | apply below_alloc | apply pw_below_drewN | apply below_drew1 | refine below_set ?_ GE295.out) | exact HB.out)⟩

end Go.Proofs.Ytbmnpjalekailaa.M
