/- Written by a program of this session (a turned copy of the printer: wip/turnprint.py): for each Go function a plain one, and the walk that shows that the code comes to just its answers. -/
import Derived.Test.YtianljjmnpdkcaaMx0
import Derived.Test.YtianljjmnpdkcaaMx4
namespace Go.Proofs.Ytianljjmnpdkcaa.M
open Go.RowKit Go.Proofs.YtianljjmnpdkcaaW.PrintWords Go.Proofs.YtianljjmnpdkcaaW.PrintLast Go.Proofs.YtianljjmnpdkcaaW.PrintMore
attribute [local go_sem] max2_int min2_int max_two min_two max_three min_three max_four min_four   -- for this text's walks alone
set_option linter.unusedVariables false
set_option linter.unusedSimpArgs false

/-! ### money_Sum: function 27 -/
def money_Sum.l0 : Nat → List Int → Int → Int → Int → Int → Option (Int × Int)
  | 0, _, _, _, _, _ => none
  | k + 1, x8, x9, x10, x200000, x200001 => if x10 < x9 then (if 0 ≤ x10 then (if x10 < (x8.length : Int) then ((money_wide_add.f x200000 x200001 (rd x8 x10)).bind fun bt201 => (money_Sum.l0 k x8 x9 (wrap64 (x10 + 1)) bt201.1 bt201.2)) else (none)) else (none)) else (if (wrap64 (x200001)) ≥ 0 then (if x200000 = 0 then (if (wrap64 (x200001)) < 0 then (if x200000 = (-1) then (some (wrap64 (x200001), 0)) else (some (0, 10))) else (some (wrap64 (x200001), 0))) else (some (0, 10))) else (if (wrap64 (x200001)) < 0 then (if x200000 = (-1) then (some (wrap64 (x200001), 0)) else (some (0, 10))) else (some (wrap64 (x200001), 0))))
def money_Sum.f (k : Nat) (l0 : List Int) : Option (Int × Int) := money_Sum.l0 k l0 (l0.length : Int) 0 0 0
theorem money_Sum.mono_l : ∀ k, (∀ y0 y1 y2 y3 y4, LeO (money_Sum.l0 k y0 y1 y2 y3 y4) (money_Sum.l0 (k + 1) y0 y1 y2 y3 y4))
  | 0 => fun _ _ _ _ _ r h => by simp [money_Sum.l0] at h
  | k + 1 => by
    have ih0 := money_Sum.mono_l k
    · intro y0 y1 y2 y3 y4
      unfold money_Sum.l0
      repeat' first
      | (with_reducible exact ih0 _ _ _ _ _)
      | (with_reducible exact LeO.refl _)
      | (with_reducible exact LeO.none _)
      | (with_reducible refine LeO.ite ?_ ?_)
      | (with_reducible refine LeO.bind ?_ (fun _ => ?_))
      | exact ih0 _ _ _ _ _
      | exact LeO.none _
      | refine LeO.ite ?_ ?_
      | refine LeO.bind ?_ (fun _ => ?_)
theorem money_Sum.mono : ∀ a0 k, LeO (money_Sum.f k a0) (money_Sum.f (k + 1) a0) := by
  intro a0 k
  have ih0 := money_Sum.mono_l k
  unfold money_Sum.f
  repeat' first
      | (with_reducible exact ih0 _ _ _ _ _)
      | (with_reducible exact LeO.refl _)
      | (with_reducible exact LeO.none _)
      | (with_reducible refine LeO.ite ?_ ?_)
      | (with_reducible refine LeO.bind ?_ (fun _ => ?_))
      | exact ih0 _ _ _ _ _
      | exact LeO.none _
      | refine LeO.ite ?_ ?_
      | refine LeO.bind ?_ (fun _ => ?_)
set_option maxHeartbeats 8000000 in
set_option maxRecDepth 100000 in
theorem money_Sum.calls (k : Nat) (A0 : Option Addr) (c0 : Nat) (l0 : List Int) (r1 : Int) (r2 : Int) (w : World) (hr0 : Kd.C (Kd.int .i64) w A0 l0.length l0) (hc0 : l0.length ≤ c0) (h : money_Sum.f k l0 = some (r1, r2)) :
    Calls Try.prog 27 #[.slice A0 l0.length c0] w fun e w' => e = .returned (.tuple #[.int .i64 r1, .int .i64 r2]) ∧ Below w.heap.size w w' := by
  have hu76 := Try.underlying76
  have HR0 := Aside0.mk hr0
  have HC0 := Aside0.mk hc0
  clear hr0 hc0
  have HB := Aside0.mk (Below.refl w.heap.size w)
  have H : (money_Sum.l0 k l0 (l0.length : Int) 0 0 0) = some (r1, r2) := h
  clear h
  have H' := Aside0.mk H
  clear H
  go_enter Try.func27, Try.ntmps27
  go_wp2_with (first | ((with_reducible refine gate_dst (N := 4) rfl ?_); refine box_event ?hg (N := 4) ?hd (cs := #[.int .i64 0, .int .u64 0]) (t := 76) ?hr ?_; (case hd => rfl); (case hg => rfl); (case hr => first | (go_simp; done) | (go_simp; rfl)); intro gb199 hg w2 hbox hb; have n0_ := Aside0.mk (below_step (by repeat (first | (with_reducible first | exact HB.out | apply below_alloc | apply pw_below_drewN | apply below_drew1) | exact HB.out)) hb); have n1_ := Aside0.mk (hbox); have n2_ := Aside0.mk ((by rw [hg]; exact (below_size (by repeat (first | (with_reducible first | exact HB.out | apply below_alloc | apply pw_below_drewN | apply below_drew1) | exact HB.out))) : w.heap.size ≤ gb199)); have n3_ := Aside0.mk ((by rw [hg]; exact (below_size (by repeat (first | (with_reducible first | exact HB.out | apply below_alloc | apply pw_below_drewN | apply below_drew1) | exact HB.out))) : w.heap.size ≤ gb199)); clear HB; have HB := n0_; have BK199 := n1_; have GW199 := n2_; have GE199 := n3_; clear n0_ n1_ n2_ n3_; clear hb hbox hg))
  go_loopg [10] k (fun kq v10 w' => ∃ (x10_1 : Int) (x200000_1 : Int) (x200001_1 : Int), v10 = .int .i64 x10_1 ∧ Aside0 (money_Sum.l0 kq l0 (l0.length : Int) x10_1 x200000_1 x200001_1 = some (r1, r2)) ∧ Aside0 (kq ≤ k) ∧ Aside0 (w'.heap[gb199]? = some (.cells #[.int .i64 x200000_1, .int .u64 x200001_1] 76 (0, 0))) ∧ Aside0 (Below w.heap.size w w'))
  case atStart => exact ⟨(0), (0), (0), (by first | rfl | (simp; done) | (simp [*]; done)), H', ⟨Nat.le_refl _⟩, ⟨by (with_reducible repeat (first | refine blk_drewN ?_ _ | refine blk_drew ?_ | refine blk_alloc ?_ _)); exact BK199.out⟩, ⟨by repeat (first | (with_reducible first | exact HB.out | apply below_alloc | apply pw_below_drewN | apply below_drew1 | refine below_set ?_ GE199.out) | exact HB.out)⟩⟩
  case round =>
    clear H'
    try clear c2
    try clear p2
    obtain ⟨x10_1, x200000_1, x200001_1, rfl, HA, HK1, BK199, HB⟩ := hrel
    cases gk with
    | zero => exact absurd HA.out (by simp [money_Sum.l0])
    | succ k1 =>
      have H := HA.out
      clear HA
      simp only [money_Sum.l0] at H
      by_cases c3 : x10_1 < (l0.length : Int)
      · rw [if_pos c3] at H
        have c3b0 : decide (x10_1 < (l0.length : Int)) = true := decide_eq_true c3
        clear c3
        by_cases c4 : 0 ≤ x10_1
        · rw [if_pos c4] at H
          have c4b0 : decide (0 ≤ x10_1) = true := decide_eq_true c4
          clear c4
          by_cases c5 : x10_1 < (l0.length : Int)
          · rw [if_pos c5] at H
            have c5b0 : decide (x10_1 < (l0.length : Int)) = true := decide_eq_true c5
            clear c5
            replace H := Option.bind_eq_some_iff.mp H
            obtain ⟨⟨t201, t202⟩, A60, H⟩ := H
            replace H : (money_Sum.l0 k1 l0 (l0.length : Int) (wrap64 (x10_1 + 1)) t201 t202) = some (r1, r2) := H
            have A6 := Aside0.mk A60
            clear A60
            have H' := Aside0.mk H
            clear H
            have p200 : 0 ≤ (x10_1 : Int) := of_decide_eq_true (by first | (with_reducible assumption) | assumption)
            have q200 : x10_1 < (l0.length : Int) := of_decide_eq_true (by first | (with_reducible assumption) | assumption)
            obtain ⟨ad200, e200, hx200_0⟩ := Kd.at_int HR0.out x10_1 p200 q200
            cases e200
            replace hx200_0 := (HB.out.cell (World.block_lt_of_cell? w _ hx200_0)).trans hx200_0
            replace p200 := eq_true p200
            replace q200 := eq_true q200
            have hcz7_0 : wr.cell? ⟨gb199, 0, none⟩ = some (.int .i64 x200000_1) := (blk_cell BK199.out 0).trans rfl
            have hcz7_1 : wr.cell? ⟨gb199, 1, none⟩ = some (.int .u64 x200001_1) := (blk_cell BK199.out 1).trans rfl
            have hfz7_0 := blk_frozen BK199.out 0
            have hfz7_1 := blk_frozen BK199.out 1
            go_wp2_with (first | ((with_reducible refine gate_callee (f := 37) rfl ?_); refine goesL_ (some 16) rfl rfl Try.func37 (by kernel_rfl) rfl #[.agg #[.int .i64 x200000_1, .int .u64 x200001_1], .int .i64 (rd l0 x10_1)] rfl (by (try simp only [List.map_toArray, List.map_cons, List.map_nil]); first | done | rfl | (simp only [List.length_drop, List.length_take]; rfl)) ?_; (with_reducible refine (money_wide_add.calls x200000_1 x200001_1 (rd l0 x10_1) t201 t202 _ A6.out).mono ?_); rintro e w8 ⟨rfl, hb⟩; refine ⟨_, rfl, ?_⟩; have n0_ := Aside0.mk (blk_below (g := gb199) (o := .cells #[.int .i64 x200000_1, .int .u64 x200001_1] 76 (0, 0)) (by (with_reducible repeat (first | refine blk_drewN ?_ _ | refine blk_drew ?_ | refine blk_alloc ?_ _)); exact BK199.out) hb); have n1_ := Aside0.mk (below_step (by repeat (first | (with_reducible first | exact HB.out | apply below_alloc | apply pw_below_drewN | apply below_drew1 | refine below_set ?_ GE199.out) | exact HB.out)) hb); clear BK199; clear HB; have BK199 := n0_; have HB := n1_; clear n0_ n1_; (try clear hb); (try clear hb2); (try clear hk); (try clear hi); have hcz9_0 : w8.cell? ⟨gb199, 0, none⟩ = some (.int .i64 x200000_1) := (blk_cell BK199.out 0).trans rfl; have hcz9_1 : w8.cell? ⟨gb199, 1, none⟩ = some (.int .u64 x200001_1) := (blk_cell BK199.out 1).trans rfl; have hfz9_0 := blk_frozen BK199.out 0; have hfz9_1 := blk_frozen BK199.out 1))
            go_roundg k1
            case measure => have := HK1.out; omega
            case rel => exact ⟨(wrap64 (x10_1 + 1)), (t201), (t202), (by first | rfl | (simp; done) | (simp [*]; done)), H', ⟨by have := HK1.out; omega⟩, ⟨by (with_reducible repeat (first | refine blk_drewN ?_ _ | refine blk_drew ?_ | refine blk_alloc ?_ _)); refine blk_put (cs := #[.int .i64 t201, .int .u64 x200001_1]) ?_ 1 _ rfl; (with_reducible repeat (first | refine blk_drewN ?_ _ | refine blk_drew ?_ | refine blk_alloc ?_ _)); refine blk_put (cs := #[.int .i64 x200000_1, .int .u64 x200001_1]) ?_ 0 _ rfl; (with_reducible repeat (first | refine blk_drewN ?_ _ | refine blk_drew ?_ | refine blk_alloc ?_ _)); exact BK199.out⟩, ⟨by repeat (first | (with_reducible first | exact HB.out | apply below_alloc | apply pw_below_drewN | apply below_drew1 | refine below_set ?_ GE199.out) | exact HB.out)⟩⟩
          · rw [if_neg c5] at H
            exact absurd H (by simp)
        · rw [if_neg c4] at H
          exact absurd H (by simp)
      · rw [if_neg c3] at H
        have c3b0 : decide (x10_1 < (l0.length : Int)) = false := decide_eq_false c3
        clear c3
        by_cases c10 : (wrap64 (x200001_1)) ≥ 0
        · rw [if_pos c10] at H
          have c10b0 : decide (0 ≤ (wrap64 (x200001_1))) = true := decide_eq_true c10
          clear c10
          by_cases c11 : x200000_1 = 0
          · rw [if_pos c11] at H
            have c11b0 : (x200000_1 == 0) = true := beq_iff_eq.mpr c11
            have c11b1 : (x200000_1 != 0) = false := bne_eq_false_iff_eq.mpr c11
            clear c11
            by_cases c12 : (wrap64 (x200001_1)) < 0
            · rw [if_pos c12] at H
              have c12b0 : decide ((wrap64 (x200001_1)) < 0) = true := decide_eq_true c12
              clear c12
              by_cases c13 : x200000_1 = (-1)
              · rw [if_pos c13] at H
                have c13b0 : (x200000_1 == (-1)) = true := beq_iff_eq.mpr c13
                have c13b1 : (x200000_1 != (-1)) = false := bne_eq_false_iff_eq.mpr c13
                clear c13
                simp only [Option.some.injEq, Prod.mk.injEq] at H
                obtain ⟨rfl, rfl⟩ := H
                have hcz14_0 : wr.cell? ⟨gb199, 0, none⟩ = some (.int .i64 x200000_1) := (blk_cell BK199.out 0).trans rfl
                have hcz14_1 : wr.cell? ⟨gb199, 1, none⟩ = some (.int .u64 x200001_1) := (blk_cell BK199.out 1).trans rfl
                have hfz14_0 := blk_frozen BK199.out 0
                have hfz14_1 := blk_frozen BK199.out 1
                go_wp2
                go_ret2
                exact ⟨by first | rfl | (simp [errW_none, errW_some] <;> rfl) | (simp [*, errW_none, errW_some] <;> rfl), by repeat (first | (with_reducible first | exact HB.out | apply below_alloc | apply pw_below_drewN | apply below_drew1 | refine below_set ?_ GE199.out) | exact HB.out)⟩
              · rw [if_neg c13] at H
                have c13b0 : (x200000_1 == (-1)) = false := beq_eq_false_iff_ne.mpr c13
                have c13b1 : (x200000_1 != (-1)) = true := bne_iff_ne.mpr c13
                simp only [Option.some.injEq, Prod.mk.injEq] at H
                obtain ⟨rfl, rfl⟩ := H
                have hcz15_0 : wr.cell? ⟨gb199, 0, none⟩ = some (.int .i64 x200000_1) := (blk_cell BK199.out 0).trans rfl
                have hcz15_1 : wr.cell? ⟨gb199, 1, none⟩ = some (.int .u64 x200001_1) := (blk_cell BK199.out 1).trans rfl
                have hfz15_0 := blk_frozen BK199.out 0
                have hfz15_1 := blk_frozen BK199.out 1
                go_wp2
                go_ret2
                exact ⟨by first | rfl | (simp [errW_none, errW_some] <;> rfl) | (simp [*, errW_none, errW_some] <;> rfl), by repeat (first | (with_reducible first | exact HB.out | apply below_alloc | apply pw_below_drewN | apply below_drew1 | refine below_set ?_ GE199.out) | exact HB.out)⟩
            · rw [if_neg c12] at H
              have c12b0 : decide ((wrap64 (x200001_1)) < 0) = false := decide_eq_false c12
              clear c12
              simp only [Option.some.injEq, Prod.mk.injEq] at H
              obtain ⟨rfl, rfl⟩ := H
              have hcz16_0 : wr.cell? ⟨gb199, 0, none⟩ = some (.int .i64 x200000_1) := (blk_cell BK199.out 0).trans rfl
              have hcz16_1 : wr.cell? ⟨gb199, 1, none⟩ = some (.int .u64 x200001_1) := (blk_cell BK199.out 1).trans rfl
              have hfz16_0 := blk_frozen BK199.out 0
              have hfz16_1 := blk_frozen BK199.out 1
              go_wp2
              go_ret2
              exact ⟨by first | rfl | (simp [errW_none, errW_some] <;> rfl) | (simp [*, errW_none, errW_some] <;> rfl), by repeat (first | (with_reducible first | exact HB.out | apply below_alloc | apply pw_below_drewN | apply below_drew1 | refine below_set ?_ GE199.out) | exact HB.out)⟩
          · rw [if_neg c11] at H
            have c11b0 : (x200000_1 == 0) = false := beq_eq_false_iff_ne.mpr c11
            have c11b1 : (x200000_1 != 0) = true := bne_iff_ne.mpr c11
            simp only [Option.some.injEq, Prod.mk.injEq] at H
            obtain ⟨rfl, rfl⟩ := H
            have hcz17_0 : wr.cell? ⟨gb199, 0, none⟩ = some (.int .i64 x200000_1) := (blk_cell BK199.out 0).trans rfl
            have hcz17_1 : wr.cell? ⟨gb199, 1, none⟩ = some (.int .u64 x200001_1) := (blk_cell BK199.out 1).trans rfl
            have hfz17_0 := blk_frozen BK199.out 0
            have hfz17_1 := blk_frozen BK199.out 1
            go_wp2
            go_ret2
            exact ⟨by first | rfl | (simp [errW_none, errW_some] <;> rfl) | (simp [*, errW_none, errW_some] <;> rfl), by repeat (first | (with_reducible first | exact HB.out | apply below_alloc | apply pw_below_drewN | apply below_drew1 | refine below_set ?_ GE199.out) | exact HB.out)⟩
        · rw [if_neg c10] at H
          have c10b0 : decide (0 ≤ (wrap64 (x200001_1))) = false := decide_eq_false c10
          clear c10
          by_cases c18 : (wrap64 (x200001_1)) < 0
          · rw [if_pos c18] at H
            have c18b0 : decide ((wrap64 (x200001_1)) < 0) = true := decide_eq_true c18
            clear c18
            by_cases c19 : x200000_1 = (-1)
            · rw [if_pos c19] at H
              have c19b0 : (x200000_1 == (-1)) = true := beq_iff_eq.mpr c19
              have c19b1 : (x200000_1 != (-1)) = false := bne_eq_false_iff_eq.mpr c19
              clear c19
              simp only [Option.some.injEq, Prod.mk.injEq] at H
              obtain ⟨rfl, rfl⟩ := H
              have hcz20_0 : wr.cell? ⟨gb199, 0, none⟩ = some (.int .i64 x200000_1) := (blk_cell BK199.out 0).trans rfl
              have hcz20_1 : wr.cell? ⟨gb199, 1, none⟩ = some (.int .u64 x200001_1) := (blk_cell BK199.out 1).trans rfl
              have hfz20_0 := blk_frozen BK199.out 0
              have hfz20_1 := blk_frozen BK199.out 1
              go_wp2
              go_ret2
              exact ⟨by first | rfl | (simp [errW_none, errW_some] <;> rfl) | (simp [*, errW_none, errW_some] <;> rfl), by repeat (first | (with_reducible first | exact HB.out | apply below_alloc | apply pw_below_drewN | apply below_drew1 | refine below_set ?_ GE199.out) | exact HB.out)⟩
            · rw [if_neg c19] at H
              have c19b0 : (x200000_1 == (-1)) = false := beq_eq_false_iff_ne.mpr c19
              have c19b1 : (x200000_1 != (-1)) = true := bne_iff_ne.mpr c19
              simp only [Option.some.injEq, Prod.mk.injEq] at H
              obtain ⟨rfl, rfl⟩ := H
              have hcz21_0 : wr.cell? ⟨gb199, 0, none⟩ = some (.int .i64 x200000_1) := (blk_cell BK199.out 0).trans rfl
              have hcz21_1 : wr.cell? ⟨gb199, 1, none⟩ = some (.int .u64 x200001_1) := (blk_cell BK199.out 1).trans rfl
              have hfz21_0 := blk_frozen BK199.out 0
              have hfz21_1 := blk_frozen BK199.out 1
              go_wp2
              go_ret2
              exact ⟨by first | rfl | (simp [errW_none, errW_some] <;> rfl) | (simp [*, errW_none, errW_some] <;> rfl), by repeat (first | (with_reducible first | exact HB.out | apply below_alloc | apply pw_below_drewN | apply below_drew1 | refine below_set ?_ GE199.out) | exact HB.out)⟩
          · rw [if_neg c18] at H
            have c18b0 : decide ((wrap64 (x200001_1)) < 0) = false := decide_eq_false c18
            clear c18
            simp only [Option.some.injEq, Prod.mk.injEq] at H
            obtain ⟨rfl, rfl⟩ := H
            have hcz22_0 : wr.cell? ⟨gb199, 0, none⟩ = some (.int .i64 x200000_1) := (blk_cell BK199.out 0).trans rfl
            have hcz22_1 : wr.cell? ⟨gb199, 1, none⟩ = some (.int .u64 x200001_1) := (blk_cell BK199.out 1).trans rfl
            have hfz22_0 := blk_frozen BK199.out 0
            have hfz22_1 := blk_frozen BK199.out 1
            go_wp2
            go_ret2
            exact ⟨by first | rfl | (simp [errW_none, errW_some] <;> rfl) | (simp [*, errW_none, errW_some] <;> rfl), by repeat (first | (with_reducible first | exact HB.out | apply below_alloc | apply pw_below_drewN | apply below_drew1 | refine below_set ?_ GE199.out) | exact HB.out)⟩

/-! ### book_Book_Open: function 16 -/
mutual
def book_Book_Open.l0 : Nat → Int → Int → List Int → List (S33) → Int → Int → Int → List (S33) → List (S103) → Option (Int × Int)
  | 0, _, _, _, _, _, _, _, _, _ => none
  | k + 1, x1, x2, x8, x13, x14, x15, x204000, x204001, x204002 => if x15 < x14 then (if 0 ≤ x15 then (if x15 < (x13.length : Int) then ((book_open.f ((rd_T33 x13 x15).f0.f0) ((rd_T33 x13 x15).f0.f1) ((rd_T33 x13 x15).f1) ((rd_T33 x13 x15).f2) ((rd_T33 x13 x15).f3) ((rd_T33 x13 x15).f4) ((rd_T33 x13 x15).f5) ((rd_T33 x13 x15).f6) x1).bind fun t208 => (if t208 = true then (if x2 ≥ 0 then (if ((rd_T33 x13 x15).f0.f0) = x2 then (book_Book_Open.j1 k x1 x2 x8 x13 x14 x15 false x204000 x204001 x204002 ((rd_T33 x13 x15).f0.f0) ((rd_T33 x13 x15).f0.f1) ((rd_T33 x13 x15).f1) ((rd_T33 x13 x15).f2) ((rd_T33 x13 x15).f3) ((rd_T33 x13 x15).f4) ((rd_T33 x13 x15).f5) ((rd_T33 x13 x15).f6)) else (book_Book_Open.j1 k x1 x2 x8 x13 x14 x15 (((rd_T33 x13 x15).f1) != x2) x204000 x204001 x204002 ((rd_T33 x13 x15).f0.f0) ((rd_T33 x13 x15).f0.f1) ((rd_T33 x13 x15).f1) ((rd_T33 x13 x15).f2) ((rd_T33 x13 x15).f3) ((rd_T33 x13 x15).f4) ((rd_T33 x13 x15).f5) ((rd_T33 x13 x15).f6))) else (book_Book_Open.j1 k x1 x2 x8 x13 x14 x15 false x204000 x204001 x204002 ((rd_T33 x13 x15).f0.f0) ((rd_T33 x13 x15).f0.f1) ((rd_T33 x13 x15).f1) ((rd_T33 x13 x15).f2) ((rd_T33 x13 x15).f3) ((rd_T33 x13 x15).f4) ((rd_T33 x13 x15).f5) ((rd_T33 x13 x15).f6))) else (book_Book_Open.j1 k x1 x2 x8 x13 x14 x15 true x204000 x204001 x204002 ((rd_T33 x13 x15).f0.f0) ((rd_T33 x13 x15).f0.f1) ((rd_T33 x13 x15).f1) ((rd_T33 x13 x15).f2) ((rd_T33 x13 x15).f3) ((rd_T33 x13 x15).f4) ((rd_T33 x13 x15).f5) ((rd_T33 x13 x15).f6)))) else (none)) else (none)) else ((money_Sum.f k x8).bind fun bt204 => (some (bt204.1, bt204.2)))
def book_Book_Open.j1 : Nat → Int → Int → List Int → List (S33) → Int → Int → Bool → Int → List (S33) → List (S103) → Int → Int → Int → Int → Int → Int → Int → Int → Option (Int × Int)
  | 0, _, _, _, _, _, _, _, _, _, _, _, _, _, _, _, _, _, _ => none
  | k + 1, x1, x2, x8, x13, x14, x15, x39, x204000, x204001, x204002, x208000, x208001, x208002, x208003, x208004, x208005, x208006, x208007 => if x39 = true then (book_Book_Open.l0 k x1 x2 x8 x13 x14 (wrap64 (x15 + 1)) x204000 x204001 x204002) else (if x208002 = x204000 then (if x8.length < 17592186044416 then (book_Book_Open.l0 k x1 x2 (x8 ++ [wrap64 (-x208004)]) x13 x14 (wrap64 (x15 + 1)) x204000 x204001 x204002) else (none)) else (if x8.length < 17592186044416 then (book_Book_Open.l0 k x1 x2 (x8 ++ [x208004]) x13 x14 (wrap64 (x15 + 1)) x204000 x204001 x204002) else (none)))
end
def book_Book_Open.f (k : Nat) (a0_0 : Int) (l0_1 : List (S33)) (l0_2 : List (S103)) (a1 : Int) (a2 : Int) : Option (Int × Int) := book_Book_Open.l0 k a1 a2 ([] : List Int) l0_1 (l0_1.length : Int) 0 a0_0 l0_1 l0_2
theorem book_Book_Open.mono_l : ∀ k, (∀ y0 y1 y2 y3 y4 y5 y6 y7 y8, LeO (book_Book_Open.l0 k y0 y1 y2 y3 y4 y5 y6 y7 y8) (book_Book_Open.l0 (k + 1) y0 y1 y2 y3 y4 y5 y6 y7 y8)) ∧ (∀ y0 y1 y2 y3 y4 y5 y6 y7 y8 y9 y10 y11 y12 y13 y14 y15 y16 y17, LeO (book_Book_Open.j1 k y0 y1 y2 y3 y4 y5 y6 y7 y8 y9 y10 y11 y12 y13 y14 y15 y16 y17) (book_Book_Open.j1 (k + 1) y0 y1 y2 y3 y4 y5 y6 y7 y8 y9 y10 y11 y12 y13 y14 y15 y16 y17))
  | 0 => ⟨fun _ _ _ _ _ _ _ _ _ r h => by simp [book_Book_Open.l0] at h, fun _ _ _ _ _ _ _ _ _ _ _ _ _ _ _ _ _ _ r h => by simp [book_Book_Open.j1] at h⟩
  | k + 1 => by
    obtain ⟨ih0, ih1⟩ := book_Book_Open.mono_l k
    refine ⟨?_, ?_⟩
    · intro y0 y1 y2 y3 y4 y5 y6 y7 y8
      unfold book_Book_Open.l0
      repeat' first
      | (with_reducible exact ih0 _ _ _ _ _ _ _ _ _)
      | (with_reducible exact ih1 _ _ _ _ _ _ _ _ _ _ _ _ _ _ _ _ _ _)
      | (with_reducible exact money_Sum.mono _ _)
      | (with_reducible exact LeO.refl _)
      | (with_reducible exact LeO.none _)
      | (with_reducible refine LeO.ite ?_ ?_)
      | (with_reducible refine LeO.bind ?_ (fun _ => ?_))
      | exact ih0 _ _ _ _ _ _ _ _ _
      | exact ih1 _ _ _ _ _ _ _ _ _ _ _ _ _ _ _ _ _ _
      | exact money_Sum.mono _ _
      | exact LeO.none _
      | refine LeO.ite ?_ ?_
      | refine LeO.bind ?_ (fun _ => ?_)
    · intro y0 y1 y2 y3 y4 y5 y6 y7 y8 y9 y10 y11 y12 y13 y14 y15 y16 y17
      unfold book_Book_Open.j1
      repeat' first
      | (with_reducible exact ih0 _ _ _ _ _ _ _ _ _)
      | (with_reducible exact ih1 _ _ _ _ _ _ _ _ _ _ _ _ _ _ _ _ _ _)
      | (with_reducible exact money_Sum.mono _ _)
      | (with_reducible exact LeO.refl _)
      | (with_reducible exact LeO.none _)
      | (with_reducible refine LeO.ite ?_ ?_)
      | (with_reducible refine LeO.bind ?_ (fun _ => ?_))
      | exact ih0 _ _ _ _ _ _ _ _ _
      | exact ih1 _ _ _ _ _ _ _ _ _ _ _ _ _ _ _ _ _ _
      | exact money_Sum.mono _ _
      | exact LeO.none _
      | refine LeO.ite ?_ ?_
      | refine LeO.bind ?_ (fun _ => ?_)
theorem book_Book_Open.mono : ∀ a0 a1 a2 a3 a4 k, LeO (book_Book_Open.f k a0 a1 a2 a3 a4) (book_Book_Open.f (k + 1) a0 a1 a2 a3 a4) := by
  intro a0 a1 a2 a3 a4 k
  obtain ⟨ih0, ih1⟩ := book_Book_Open.mono_l k
  unfold book_Book_Open.f
  repeat' first
      | (with_reducible exact ih0 _ _ _ _ _ _ _ _ _)
      | (with_reducible exact ih1 _ _ _ _ _ _ _ _ _ _ _ _ _ _ _ _ _ _)
      | (with_reducible exact money_Sum.mono _ _)
      | (with_reducible exact LeO.refl _)
      | (with_reducible exact LeO.none _)
      | (with_reducible refine LeO.ite ?_ ?_)
      | (with_reducible refine LeO.bind ?_ (fun _ => ?_))
      | exact ih0 _ _ _ _ _ _ _ _ _
      | exact ih1 _ _ _ _ _ _ _ _ _ _ _ _ _ _ _ _ _ _
      | exact money_Sum.mono _ _
      | exact LeO.none _
      | refine LeO.ite ?_ ?_
      | refine LeO.bind ?_ (fun _ => ?_)
set_option maxHeartbeats 8000000 in
set_option maxRecDepth 100000 in
theorem book_Book_Open.calls (k : Nat) (a0_0 : Int) (A0_1 : Option Addr) (c0_1 : Nat) (l0_1 : List (S33)) (A0_2 : Option Addr) (c0_2 : Nat) (l0_2 : List (S103)) (a1 : Int) (a2 : Int) (r1 : Int) (r2 : Int) (w : World) (hr0_1 : Kd.C k33 w A0_1 l0_1.length l0_1) (hc0_1 : l0_1.length ≤ c0_1) (hr0_2 : Kd.C k103 w A0_2 l0_2.length l0_2) (hc0_2 : l0_2.length ≤ c0_2) (h : book_Book_Open.f k a0_0 l0_1 l0_2 a1 a2 = some (r1, r2)) :
    Calls Try.prog 16 #[.agg #[.int .i64 a0_0, .slice A0_1 l0_1.length c0_1, .slice A0_2 l0_2.length c0_2], .int .i64 a1, .int .i64 a2] w fun e w' => e = .returned (.tuple #[.int .i64 r1, .int .i64 r2]) ∧ Below w.heap.size w w' := by
  have hu26 := Try.underlying26
  have hu33 := Try.underlying33
  have HR0_1 := Aside0.mk hr0_1
  have HC0_1 := Aside0.mk hc0_1
  clear hr0_1 hc0_1
  have HR0_2 := Aside0.mk hr0_2
  have HC0_2 := Aside0.mk hc0_2
  clear hr0_2 hc0_2
  have HB := Aside0.mk (Below.refl w.heap.size w)
  have H : (book_Book_Open.l0 k a1 a2 ([] : List Int) l0_1 (l0_1.length : Int) 0 a0_0 l0_1 l0_2) = some (r1, r2) := h
  clear h
  have H' := Aside0.mk H
  clear H
  go_enter Try.func16, Try.ntmps16
  go_wp2_with (first | ((with_reducible refine gate_dst (N := 3) rfl ?_); refine box_event ?hg (N := 3) ?hd (cs := #[.int .i64 a0_0, .slice A0_1 l0_1.length c0_1, .slice A0_2 l0_2.length c0_2]) (t := 26) ?hr ?_; (case hd => rfl); (case hg => rfl); (case hr => first | (go_simp; done) | (go_simp; rfl)); intro gb203 hg w4 hbox hb; have n0_ := Aside0.mk (below_step (by repeat (first | (with_reducible first | exact HB.out | apply below_alloc | apply pw_below_drewN | apply below_drew1) | exact HB.out)) hb); have n1_ := Aside0.mk (hbox); have n2_ := Aside0.mk ((by rw [hg]; exact (below_size (by repeat (first | (with_reducible first | exact HB.out | apply below_alloc | apply pw_below_drewN | apply below_drew1) | exact HB.out))) : w.heap.size ≤ gb203)); have n3_ := Aside0.mk ((by rw [hg]; exact (below_size (by repeat (first | (with_reducible first | exact HB.out | apply below_alloc | apply pw_below_drewN | apply below_drew1) | exact HB.out))) : w.heap.size ≤ gb203)); clear HB; have HB := n0_; have BK203 := n1_; have GW203 := n2_; have GE203 := n3_; clear n0_ n1_ n2_ n3_; clear hb hbox hg; have hcz5_0 : w4.cell? ⟨gb203, 0, none⟩ = some (.int .i64 a0_0) := (blk_cell BK203.out 0).trans rfl; have hcz5_1 : w4.cell? ⟨gb203, 1, none⟩ = some (.slice A0_1 l0_1.length c0_1) := (blk_cell BK203.out 1).trans rfl; have hcz5_2 : w4.cell? ⟨gb203, 2, none⟩ = some (.slice A0_2 l0_2.length c0_2) := (blk_cell BK203.out 2).trans rfl; have hfz5_0 := blk_frozen BK203.out 0; have hfz5_1 := blk_frozen BK203.out 1; have hfz5_2 := blk_frozen BK203.out 2))
  go_loopg [8, 15] k (fun kq v8 v15 w' => ∃ (x8_1 : List Int) (x15_1 : Int), v15 = .int .i64 x15_1 ∧ Aside0 (book_Book_Open.l0 kq a1 a2 x8_1 l0_1 (l0_1.length : Int) x15_1 a0_0 l0_1 l0_2 = some (r1, r2)) ∧ Aside0 (kq ≤ k) ∧ Aside0 (Kd.R (Kd.int .i64) 2 w' w.heap.size (fun _ => True) v8 x8_1) ∧ Aside0 (w'.heap[gb203]? = some (.cells #[.int .i64 a0_0, (.slice A0_1 l0_1.length c0_1), (.slice A0_2 l0_2.length c0_2)] 26 (0, 0))) ∧ Aside0 (Below w.heap.size w w'))
  case atStart => exact ⟨(([] : List Int)), (0), (by first | rfl | (simp; done) | (simp [*]; done)), H', ⟨Nat.le_refl _⟩, ⟨by first | exact Kd.R_nil _ _ _ _ _ | exact Kd.N_nil _ _ _ _ _ | exact Kd.V_nil _ _ _ _ _ | exact Kd.Q_nil _ _ _ _ _ | exact Kd.S_nil _ _ _ _ _⟩, ⟨by (with_reducible repeat (first | refine blk_drewN ?_ _ | refine blk_drew ?_ | refine blk_alloc ?_ _)); exact BK203.out⟩, ⟨by repeat (first | (with_reducible first | exact HB.out | apply below_alloc | apply pw_below_drewN | apply below_drew1 | refine below_set ?_ GE203.out) | exact HB.out)⟩⟩
  case round =>
    clear H'
    try clear c1
    try clear p2
    try clear hcz5_0
    try clear hcz5_1
    try clear hcz5_2
    try clear hfz5_0
    try clear hfz5_1
    try clear hfz5_2
    obtain ⟨x8_1, x15_1, rfl, HA, HK1, HO_8, BK203, HB⟩ := hrel
    cases gk with
    | zero => exact absurd HA.out (by simp [book_Book_Open.l0])
    | succ k1 =>
      have H := HA.out
      clear HA
      simp only [book_Book_Open.l0] at H
      by_cases c6 : x15_1 < (l0_1.length : Int)
      · rw [if_pos c6] at H
        have c6b0 : decide (x15_1 < (l0_1.length : Int)) = true := decide_eq_true c6
        clear c6
        by_cases c7 : 0 ≤ x15_1
        · rw [if_pos c7] at H
          have c7b0 : decide (0 ≤ x15_1) = true := decide_eq_true c7
          clear c7
          by_cases c8 : x15_1 < (l0_1.length : Int)
          · rw [if_pos c8] at H
            have c8b0 : decide (x15_1 < (l0_1.length : Int)) = true := decide_eq_true c8
            clear c8
            have HC9 := Aside0.mk H
            clear H
            have p206 : 0 ≤ (x15_1 : Int) := of_decide_eq_true (by first | (with_reducible assumption) | assumption)
            have q206 : x15_1 < (l0_1.length : Int) := of_decide_eq_true (by first | (with_reducible assumption) | assumption)
            obtain ⟨ad206, e206, hx206_0, hx206_1, hx206_2, hx206_3, hx206_4, hx206_5, hx206_6, hx206_7⟩ := at_T33 HR0_1.out x15_1 p206 q206
            cases e206
            replace hx206_0 := (HB.out.cell (World.block_lt_of_cell? w _ hx206_0)).trans hx206_0
            replace hx206_1 := (HB.out.cell (World.block_lt_of_cell? w _ hx206_1)).trans hx206_1
            replace hx206_2 := (HB.out.cell (World.block_lt_of_cell? w _ hx206_2)).trans hx206_2
            replace hx206_3 := (HB.out.cell (World.block_lt_of_cell? w _ hx206_3)).trans hx206_3
            replace hx206_4 := (HB.out.cell (World.block_lt_of_cell? w _ hx206_4)).trans hx206_4
            replace hx206_5 := (HB.out.cell (World.block_lt_of_cell? w _ hx206_5)).trans hx206_5
            replace hx206_6 := (HB.out.cell (World.block_lt_of_cell? w _ hx206_6)).trans hx206_6
            replace hx206_7 := (HB.out.cell (World.block_lt_of_cell? w _ hx206_7)).trans hx206_7
            replace p206 := eq_true p206
            replace q206 := eq_true q206
            go_upto_region 5 with (first | ((with_reducible refine gate_dst (N := 10) rfl ?_); refine box_event ?hg (N := 10) ?hd (cs := #[.int .i64 0, .int .i64 0, .int .i64 0, .int .i64 0, .int .i64 0, .int .i64 0, .int .i64 0, .int .i64 0]) (t := 33) ?hr ?_; (case hd => rfl); (case hg => rfl); (case hr => first | (go_simp; done) | (go_simp; rfl)); intro gb207 hg w10 hbox hb; have n0_ := Aside0.mk (Kd.R_below (by (with_reducible repeat (first | apply Kd.R_alloc | apply Kd.R_drewN | apply Kd.R_drew)); exact HO_8.out) hb); have n1_ := Aside0.mk (blk_below (g := gb203) (o := .cells #[.int .i64 a0_0, .slice (some ad206) l0_1.length c0_1, .slice A0_2 l0_2.length c0_2] 26 (0, 0)) (by (with_reducible repeat (first | refine blk_drewN ?_ _ | refine blk_drew ?_ | refine blk_alloc ?_ _)); exact BK203.out) hb); have n2_ := Aside0.mk (below_step (by repeat (first | (with_reducible first | exact HB.out | apply below_alloc | apply pw_below_drewN | apply below_drew1 | refine below_set ?_ GE203.out) | exact HB.out)) hb); have n3_ := Aside0.mk (hbox); have n4_ := Aside0.mk ((by rw [hg]; exact (below_size (by repeat (first | (with_reducible first | exact HB.out | apply below_alloc | apply pw_below_drewN | apply below_drew1 | refine below_set ?_ GE203.out) | exact HB.out))) : w.heap.size ≤ gb207)); have n5_ := Aside0.mk ((by rw [hg]; exact (below_size (by repeat (first | (with_reducible first | exact HB.out | apply below_alloc | apply pw_below_drewN | apply below_drew1 | refine below_set ?_ GE203.out) | exact HB.out))) : w.heap.size ≤ gb207)); have n6_ := Aside0.mk ((by rw [hg]; exact Nat.ne_of_lt (blk_lt (g := gb203) (o := .cells #[.int .i64 a0_0, .slice (some ad206) l0_1.length c0_1, .slice A0_2 l0_2.length c0_2] 26 (0, 0)) (by (with_reducible repeat (first | refine blk_drewN ?_ _ | refine blk_drew ?_ | refine blk_alloc ?_ _)); exact BK203.out)) : gb203 ≠ gb207)); have n7_ := Aside0.mk ((by rw [hg]; exact Nat.ne_of_gt (blk_lt (g := gb203) (o := .cells #[.int .i64 a0_0, .slice (some ad206) l0_1.length c0_1, .slice A0_2 l0_2.length c0_2] 26 (0, 0)) (by (with_reducible repeat (first | refine blk_drewN ?_ _ | refine blk_drew ?_ | refine blk_alloc ?_ _)); exact BK203.out)) : gb207 ≠ gb203)); clear HO_8; clear BK203; clear HB; have HO_8 := n0_; have BK203 := n1_; have HB := n2_; have BK207 := n3_; have GW207 := n4_; have GE207 := n5_; have NB203_207 := n6_; have NB207_203 := n7_; clear n0_ n1_ n2_ n3_ n4_ n5_ n6_ n7_; clear hb hbox hg; have hnb11 := NB207_203.out; have hnc11 := NB203_207.out; have hcz12_0 : w10.cell? ⟨gb207, 0, none⟩ = some (.int .i64 0) := (blk_cell BK207.out 0).trans rfl; have hcz12_1 : w10.cell? ⟨gb207, 1, none⟩ = some (.int .i64 0) := (blk_cell BK207.out 1).trans rfl; have hcz12_2 : w10.cell? ⟨gb207, 2, none⟩ = some (.int .i64 0) := (blk_cell BK207.out 2).trans rfl; have hcz12_3 : w10.cell? ⟨gb207, 3, none⟩ = some (.int .i64 0) := (blk_cell BK207.out 3).trans rfl; have hcz12_4 : w10.cell? ⟨gb207, 4, none⟩ = some (.int .i64 0) := (blk_cell BK207.out 4).trans rfl; have hcz12_5 : w10.cell? ⟨gb207, 5, none⟩ = some (.int .i64 0) := (blk_cell BK207.out 5).trans rfl; have hcz12_6 : w10.cell? ⟨gb207, 6, none⟩ = some (.int .i64 0) := (blk_cell BK207.out 6).trans rfl; have hcz12_7 : w10.cell? ⟨gb207, 7, none⟩ = some (.int .i64 0) := (blk_cell BK207.out 7).trans rfl; have hfz12_0 := blk_frozen BK207.out 0; have hfz12_1 := blk_frozen BK207.out 1; have hfz12_2 := blk_frozen BK207.out 2; have hfz12_3 := blk_frozen BK207.out 3; have hfz12_4 := blk_frozen BK207.out 4; have hfz12_5 := blk_frozen BK207.out 5; have hfz12_6 := blk_frozen BK207.out 6; have hfz12_7 := blk_frozen BK207.out 7))
            (try simp only [Act.put, List.setIfInBounds_toArray, List.set_cons_zero, List.set_cons_succ])
            go_cut [39] (fun v39 wc => ∃ (kq : Nat) (x39_8 : Bool), v39 = .bool x39_8 ∧ Aside0 (book_Book_Open.j1 kq a1 a2 x8_1 l0_1 (l0_1.length : Int) x15_1 x39_8 a0_0 l0_1 l0_2 ((rd_T33 l0_1 x15_1).f0.f0) ((rd_T33 l0_1 x15_1).f0.f1) ((rd_T33 l0_1 x15_1).f1) ((rd_T33 l0_1 x15_1).f2) ((rd_T33 l0_1 x15_1).f3) ((rd_T33 l0_1 x15_1).f4) ((rd_T33 l0_1 x15_1).f5) ((rd_T33 l0_1 x15_1).f6) = some (r1, r2)) ∧ Aside0 (kq ≤ k1) ∧ Aside0 (Kd.R (Kd.int .i64) 2 wc w.heap.size (fun _ => True) u8 x8_1) ∧ Aside0 (wc.heap[gb203]? = some (.cells #[.int .i64 a0_0, (.slice (some ad206) l0_1.length c0_1), (.slice A0_2 l0_2.length c0_2)] 26 (0, 0))) ∧ Aside0 (wc.heap[gb207]? = some (.cells #[.int .i64 ((rd_T33 l0_1 x15_1).f0.f0), .int .i64 ((rd_T33 l0_1 x15_1).f0.f1), .int .i64 ((rd_T33 l0_1 x15_1).f1), .int .i64 ((rd_T33 l0_1 x15_1).f2), .int .i64 ((rd_T33 l0_1 x15_1).f3), .int .i64 ((rd_T33 l0_1 x15_1).f4), .int .i64 ((rd_T33 l0_1 x15_1).f5), .int .i64 ((rd_T33 l0_1 x15_1).f6)] 33 (0, 0))) ∧ Aside0 (Below w.heap.size w wc))
            case first =>
              have H := HC9.out
              clear HC9
              replace H := Option.bind_eq_some_iff.mp H
              obtain ⟨t208, A130, H⟩ := H
              replace H : (if t208 = true then (if a2 ≥ 0 then (if ((rd_T33 l0_1 x15_1).f0.f0) = a2 then (book_Book_Open.j1 k1 a1 a2 x8_1 l0_1 (l0_1.length : Int) x15_1 false a0_0 l0_1 l0_2 ((rd_T33 l0_1 x15_1).f0.f0) ((rd_T33 l0_1 x15_1).f0.f1) ((rd_T33 l0_1 x15_1).f1) ((rd_T33 l0_1 x15_1).f2) ((rd_T33 l0_1 x15_1).f3) ((rd_T33 l0_1 x15_1).f4) ((rd_T33 l0_1 x15_1).f5) ((rd_T33 l0_1 x15_1).f6)) else (book_Book_Open.j1 k1 a1 a2 x8_1 l0_1 (l0_1.length : Int) x15_1 (((rd_T33 l0_1 x15_1).f1) != a2) a0_0 l0_1 l0_2 ((rd_T33 l0_1 x15_1).f0.f0) ((rd_T33 l0_1 x15_1).f0.f1) ((rd_T33 l0_1 x15_1).f1) ((rd_T33 l0_1 x15_1).f2) ((rd_T33 l0_1 x15_1).f3) ((rd_T33 l0_1 x15_1).f4) ((rd_T33 l0_1 x15_1).f5) ((rd_T33 l0_1 x15_1).f6))) else (book_Book_Open.j1 k1 a1 a2 x8_1 l0_1 (l0_1.length : Int) x15_1 false a0_0 l0_1 l0_2 ((rd_T33 l0_1 x15_1).f0.f0) ((rd_T33 l0_1 x15_1).f0.f1) ((rd_T33 l0_1 x15_1).f1) ((rd_T33 l0_1 x15_1).f2) ((rd_T33 l0_1 x15_1).f3) ((rd_T33 l0_1 x15_1).f4) ((rd_T33 l0_1 x15_1).f5) ((rd_T33 l0_1 x15_1).f6))) else (book_Book_Open.j1 k1 a1 a2 x8_1 l0_1 (l0_1.length : Int) x15_1 true a0_0 l0_1 l0_2 ((rd_T33 l0_1 x15_1).f0.f0) ((rd_T33 l0_1 x15_1).f0.f1) ((rd_T33 l0_1 x15_1).f1) ((rd_T33 l0_1 x15_1).f2) ((rd_T33 l0_1 x15_1).f3) ((rd_T33 l0_1 x15_1).f4) ((rd_T33 l0_1 x15_1).f5) ((rd_T33 l0_1 x15_1).f6))) = some (r1, r2) := H
              have A13 := Aside0.mk A130
              clear A130
              by_cases c14 : t208 = true
              · subst c14
                have H1 : (if a2 ≥ 0 then (if ((rd_T33 l0_1 x15_1).f0.f0) = a2 then (book_Book_Open.j1 k1 a1 a2 x8_1 l0_1 (l0_1.length : Int) x15_1 false a0_0 l0_1 l0_2 ((rd_T33 l0_1 x15_1).f0.f0) ((rd_T33 l0_1 x15_1).f0.f1) ((rd_T33 l0_1 x15_1).f1) ((rd_T33 l0_1 x15_1).f2) ((rd_T33 l0_1 x15_1).f3) ((rd_T33 l0_1 x15_1).f4) ((rd_T33 l0_1 x15_1).f5) ((rd_T33 l0_1 x15_1).f6)) else (book_Book_Open.j1 k1 a1 a2 x8_1 l0_1 (l0_1.length : Int) x15_1 (((rd_T33 l0_1 x15_1).f1) != a2) a0_0 l0_1 l0_2 ((rd_T33 l0_1 x15_1).f0.f0) ((rd_T33 l0_1 x15_1).f0.f1) ((rd_T33 l0_1 x15_1).f1) ((rd_T33 l0_1 x15_1).f2) ((rd_T33 l0_1 x15_1).f3) ((rd_T33 l0_1 x15_1).f4) ((rd_T33 l0_1 x15_1).f5) ((rd_T33 l0_1 x15_1).f6))) else (book_Book_Open.j1 k1 a1 a2 x8_1 l0_1 (l0_1.length : Int) x15_1 false a0_0 l0_1 l0_2 ((rd_T33 l0_1 x15_1).f0.f0) ((rd_T33 l0_1 x15_1).f0.f1) ((rd_T33 l0_1 x15_1).f1) ((rd_T33 l0_1 x15_1).f2) ((rd_T33 l0_1 x15_1).f3) ((rd_T33 l0_1 x15_1).f4) ((rd_T33 l0_1 x15_1).f5) ((rd_T33 l0_1 x15_1).f6))) = some (r1, r2) := by rw [if_pos rfl] at H; exact H
                clear H
                have H := H1
                clear H1
                by_cases c15 : a2 ≥ 0
                · rw [if_pos c15] at H
                  have c15b0 : decide (0 ≤ a2) = true := decide_eq_true c15
                  clear c15
                  (first | rw [c15b0] | (simp only [i64_w, i32_w]; rw [c15b0]) | skip)
                  by_cases c16 : ((rd_T33 l0_1 x15_1).f0.f0) = a2
                  · rw [if_pos c16] at H
                    have c16b0 : (((rd_T33 l0_1 x15_1).f0.f0) == a2) = true := beq_iff_eq.mpr c16
                    have c16b1 : (((rd_T33 l0_1 x15_1).f0.f0) != a2) = false := bne_eq_false_iff_eq.mpr c16
                    clear c16
                    have H' := Aside0.mk H
                    clear H
                    have hnb17 := NB207_203.out
                    have hnc17 := NB203_207.out
                    have hcz18_0 : w10.cell? ⟨gb207, 0, none⟩ = some (.int .i64 0) := (blk_cell BK207.out 0).trans rfl
                    have hcz18_1 : w10.cell? ⟨gb207, 1, none⟩ = some (.int .i64 0) := (blk_cell BK207.out 1).trans rfl
                    have hcz18_2 : w10.cell? ⟨gb207, 2, none⟩ = some (.int .i64 0) := (blk_cell BK207.out 2).trans rfl
                    have hcz18_3 : w10.cell? ⟨gb207, 3, none⟩ = some (.int .i64 0) := (blk_cell BK207.out 3).trans rfl
                    have hcz18_4 : w10.cell? ⟨gb207, 4, none⟩ = some (.int .i64 0) := (blk_cell BK207.out 4).trans rfl
                    have hcz18_5 : w10.cell? ⟨gb207, 5, none⟩ = some (.int .i64 0) := (blk_cell BK207.out 5).trans rfl
                    have hcz18_6 : w10.cell? ⟨gb207, 6, none⟩ = some (.int .i64 0) := (blk_cell BK207.out 6).trans rfl
                    have hcz18_7 : w10.cell? ⟨gb207, 7, none⟩ = some (.int .i64 0) := (blk_cell BK207.out 7).trans rfl
                    have hfz18_0 := blk_frozen BK207.out 0
                    have hfz18_1 := blk_frozen BK207.out 1
                    have hfz18_2 := blk_frozen BK207.out 2
                    have hfz18_3 := blk_frozen BK207.out 3
                    have hfz18_4 := blk_frozen BK207.out 4
                    have hfz18_5 := blk_frozen BK207.out 5
                    have hfz18_6 := blk_frozen BK207.out 6
                    have hfz18_7 := blk_frozen BK207.out 7
                    go_wp2_with (first | ((with_reducible refine gate_callee (f := 26) rfl ?_); refine goesL_ (some 21) rfl rfl Try.func26 (by kernel_rfl) rfl #[.agg #[.int .i64 ((rd_T33 l0_1 x15_1).f0.f0), .int .i64 ((rd_T33 l0_1 x15_1).f0.f1), .int .i64 ((rd_T33 l0_1 x15_1).f1), .int .i64 ((rd_T33 l0_1 x15_1).f2), .int .i64 ((rd_T33 l0_1 x15_1).f3), .int .i64 ((rd_T33 l0_1 x15_1).f4), .int .i64 ((rd_T33 l0_1 x15_1).f5), .int .i64 ((rd_T33 l0_1 x15_1).f6)], .int .i64 a1] rfl (by (try simp only [List.map_toArray, List.map_cons, List.map_nil]); first | done | rfl | (simp only [List.length_drop, List.length_take]; rfl)) ?_; (with_reducible refine (book_open.calls ((rd_T33 l0_1 x15_1).f0.f0) ((rd_T33 l0_1 x15_1).f0.f1) ((rd_T33 l0_1 x15_1).f1) ((rd_T33 l0_1 x15_1).f2) ((rd_T33 l0_1 x15_1).f3) ((rd_T33 l0_1 x15_1).f4) ((rd_T33 l0_1 x15_1).f5) ((rd_T33 l0_1 x15_1).f6) a1 true _ A13.out).mono ?_); rintro e w19 ⟨rfl, hb⟩; refine ⟨_, rfl, ?_⟩; have n0_ := Aside0.mk (Kd.R_below (by (with_reducible repeat (first | apply Kd.R_alloc | apply Kd.R_drewN | apply Kd.R_drew)); exact (Kd.R_mono (Kd.R_far (p := ⟨gb207, 7, none⟩) (Kd.R_far (p := ⟨gb207, 6, none⟩) (Kd.R_far (p := ⟨gb207, 5, none⟩) (Kd.R_far (p := ⟨gb207, 4, none⟩) (Kd.R_far (p := ⟨gb207, 3, none⟩) (Kd.R_far (p := ⟨gb207, 2, none⟩) (Kd.R_far (p := ⟨gb207, 1, none⟩) (Kd.R_far (p := ⟨gb207, 0, none⟩) (Kd.R_types HO_8.out BK207.out (by decide)) (fun _ hk => hk.2) (.int .i64 ((rd_T33 l0_1 x15_1).f0.f0))) (fun _ hk => hk.2) (.int .i64 ((rd_T33 l0_1 x15_1).f0.f1))) (fun _ hk => hk.2) (.int .i64 ((rd_T33 l0_1 x15_1).f1))) (fun _ hk => hk.2) (.int .i64 ((rd_T33 l0_1 x15_1).f2))) (fun _ hk => hk.2) (.int .i64 ((rd_T33 l0_1 x15_1).f3))) (fun _ hk => hk.2) (.int .i64 ((rd_T33 l0_1 x15_1).f4))) (fun _ hk => hk.2) (.int .i64 ((rd_T33 l0_1 x15_1).f5))) (fun _ hk => hk.2) (.int .i64 ((rd_T33 l0_1 x15_1).f6))) (fun _ h_ => h_.1))) hb); have n1_ := Aside0.mk (blk_below (g := gb203) (o := .cells #[.int .i64 a0_0, .slice (some ad206) l0_1.length c0_1, .slice A0_2 l0_2.length c0_2] 26 (0, 0)) (by (with_reducible repeat (first | refine blk_drewN ?_ _ | refine blk_drew ?_ | refine blk_alloc ?_ _)); refine blk_far ?_ NB203_207.out _; (with_reducible repeat (first | refine blk_drewN ?_ _ | refine blk_drew ?_ | refine blk_alloc ?_ _)); refine blk_far ?_ NB203_207.out _; (with_reducible repeat (first | refine blk_drewN ?_ _ | refine blk_drew ?_ | refine blk_alloc ?_ _)); refine blk_far ?_ NB203_207.out _; (with_reducible repeat (first | refine blk_drewN ?_ _ | refine blk_drew ?_ | refine blk_alloc ?_ _)); refine blk_far ?_ NB203_207.out _; (with_reducible repeat (first | refine blk_drewN ?_ _ | refine blk_drew ?_ | refine blk_alloc ?_ _)); refine blk_far ?_ NB203_207.out _; (with_reducible repeat (first | refine blk_drewN ?_ _ | refine blk_drew ?_ | refine blk_alloc ?_ _)); refine blk_far ?_ NB203_207.out _; (with_reducible repeat (first | refine blk_drewN ?_ _ | refine blk_drew ?_ | refine blk_alloc ?_ _)); refine blk_far ?_ NB203_207.out _; (with_reducible repeat (first | refine blk_drewN ?_ _ | refine blk_drew ?_ | refine blk_alloc ?_ _)); refine blk_far ?_ NB203_207.out _; (with_reducible repeat (first | refine blk_drewN ?_ _ | refine blk_drew ?_ | refine blk_alloc ?_ _)); exact BK203.out) hb); have n2_ := Aside0.mk (blk_below (g := gb207) (o := .cells #[.int .i64 ((rd_T33 l0_1 x15_1).f0.f0), .int .i64 ((rd_T33 l0_1 x15_1).f0.f1), .int .i64 ((rd_T33 l0_1 x15_1).f1), .int .i64 ((rd_T33 l0_1 x15_1).f2), .int .i64 ((rd_T33 l0_1 x15_1).f3), .int .i64 ((rd_T33 l0_1 x15_1).f4), .int .i64 ((rd_T33 l0_1 x15_1).f5), .int .i64 ((rd_T33 l0_1 x15_1).f6)] 33 (0, 0)) (by (with_reducible repeat (first | refine blk_drewN ?_ _ | refine blk_drew ?_ | refine blk_alloc ?_ _)); refine blk_put (cs := #[.int .i64 ((rd_T33 l0_1 x15_1).f0.f0), .int .i64 ((rd_T33 l0_1 x15_1).f0.f1), .int .i64 ((rd_T33 l0_1 x15_1).f1), .int .i64 ((rd_T33 l0_1 x15_1).f2), .int .i64 ((rd_T33 l0_1 x15_1).f3), .int .i64 ((rd_T33 l0_1 x15_1).f4), .int .i64 ((rd_T33 l0_1 x15_1).f5), .int .i64 0]) ?_ 7 _ rfl; (with_reducible repeat (first | refine blk_drewN ?_ _ | refine blk_drew ?_ | refine blk_alloc ?_ _)); refine blk_put (cs := #[.int .i64 ((rd_T33 l0_1 x15_1).f0.f0), .int .i64 ((rd_T33 l0_1 x15_1).f0.f1), .int .i64 ((rd_T33 l0_1 x15_1).f1), .int .i64 ((rd_T33 l0_1 x15_1).f2), .int .i64 ((rd_T33 l0_1 x15_1).f3), .int .i64 ((rd_T33 l0_1 x15_1).f4), .int .i64 0, .int .i64 0]) ?_ 6 _ rfl; (with_reducible repeat (first | refine blk_drewN ?_ _ | refine blk_drew ?_ | refine blk_alloc ?_ _)); refine blk_put (cs := #[.int .i64 ((rd_T33 l0_1 x15_1).f0.f0), .int .i64 ((rd_T33 l0_1 x15_1).f0.f1), .int .i64 ((rd_T33 l0_1 x15_1).f1), .int .i64 ((rd_T33 l0_1 x15_1).f2), .int .i64 ((rd_T33 l0_1 x15_1).f3), .int .i64 0, .int .i64 0, .int .i64 0]) ?_ 5 _ rfl; (with_reducible repeat (first | refine blk_drewN ?_ _ | refine blk_drew ?_ | refine blk_alloc ?_ _)); refine blk_put (cs := #[.int .i64 ((rd_T33 l0_1 x15_1).f0.f0), .int .i64 ((rd_T33 l0_1 x15_1).f0.f1), .int .i64 ((rd_T33 l0_1 x15_1).f1), .int .i64 ((rd_T33 l0_1 x15_1).f2), .int .i64 0, .int .i64 0, .int .i64 0, .int .i64 0]) ?_ 4 _ rfl; (with_reducible repeat (first | refine blk_drewN ?_ _ | refine blk_drew ?_ | refine blk_alloc ?_ _)); refine blk_put (cs := #[.int .i64 ((rd_T33 l0_1 x15_1).f0.f0), .int .i64 ((rd_T33 l0_1 x15_1).f0.f1), .int .i64 ((rd_T33 l0_1 x15_1).f1), .int .i64 0, .int .i64 0, .int .i64 0, .int .i64 0, .int .i64 0]) ?_ 3 _ rfl; (with_reducible repeat (first | refine blk_drewN ?_ _ | refine blk_drew ?_ | refine blk_alloc ?_ _)); refine blk_put (cs := #[.int .i64 ((rd_T33 l0_1 x15_1).f0.f0), .int .i64 ((rd_T33 l0_1 x15_1).f0.f1), .int .i64 0, .int .i64 0, .int .i64 0, .int .i64 0, .int .i64 0, .int .i64 0]) ?_ 2 _ rfl; (with_reducible repeat (first | refine blk_drewN ?_ _ | refine blk_drew ?_ | refine blk_alloc ?_ _)); refine blk_put (cs := #[.int .i64 ((rd_T33 l0_1 x15_1).f0.f0), .int .i64 0, .int .i64 0, .int .i64 0, .int .i64 0, .int .i64 0, .int .i64 0, .int .i64 0]) ?_ 1 _ rfl; (with_reducible repeat (first | refine blk_drewN ?_ _ | refine blk_drew ?_ | refine blk_alloc ?_ _)); refine blk_put (cs := #[.int .i64 0, .int .i64 0, .int .i64 0, .int .i64 0, .int .i64 0, .int .i64 0, .int .i64 0, .int .i64 0]) ?_ 0 _ rfl; (with_reducible repeat (first | refine blk_drewN ?_ _ | refine blk_drew ?_ | refine blk_alloc ?_ _)); exact BK207.out) hb); have n3_ := Aside0.mk (below_step (by repeat (first | (with_reducible first | exact HB.out | apply below_alloc | apply pw_below_drewN | apply below_drew1 | refine below_set ?_ GE203.out | refine below_set ?_ GE207.out) | exact HB.out)) hb); clear HO_8; clear BK203; clear BK207; clear HB; have HO_8 := n0_; have BK203 := n1_; have BK207 := n2_; have HB := n3_; clear n0_ n1_ n2_ n3_; (try clear hb); (try clear hb2); (try clear hk); (try clear hi); have hcz20_0 : w19.cell? ⟨gb207, 0, none⟩ = some (.int .i64 ((rd_T33 l0_1 x15_1).f0.f0)) := (blk_cell BK207.out 0).trans rfl; have hcz20_1 : w19.cell? ⟨gb207, 1, none⟩ = some (.int .i64 ((rd_T33 l0_1 x15_1).f0.f1)) := (blk_cell BK207.out 1).trans rfl; have hcz20_2 : w19.cell? ⟨gb207, 2, none⟩ = some (.int .i64 ((rd_T33 l0_1 x15_1).f1)) := (blk_cell BK207.out 2).trans rfl; have hcz20_3 : w19.cell? ⟨gb207, 3, none⟩ = some (.int .i64 ((rd_T33 l0_1 x15_1).f2)) := (blk_cell BK207.out 3).trans rfl; have hcz20_4 : w19.cell? ⟨gb207, 4, none⟩ = some (.int .i64 ((rd_T33 l0_1 x15_1).f3)) := (blk_cell BK207.out 4).trans rfl; have hcz20_5 : w19.cell? ⟨gb207, 5, none⟩ = some (.int .i64 ((rd_T33 l0_1 x15_1).f4)) := (blk_cell BK207.out 5).trans rfl; have hcz20_6 : w19.cell? ⟨gb207, 6, none⟩ = some (.int .i64 ((rd_T33 l0_1 x15_1).f5)) := (blk_cell BK207.out 6).trans rfl; have hcz20_7 : w19.cell? ⟨gb207, 7, none⟩ = some (.int .i64 ((rd_T33 l0_1 x15_1).f6)) := (blk_cell BK207.out 7).trans rfl; have hfz20_0 := blk_frozen BK207.out 0; have hfz20_1 := blk_frozen BK207.out 1; have hfz20_2 := blk_frozen BK207.out 2; have hfz20_3 := blk_frozen BK207.out 3; have hfz20_4 := blk_frozen BK207.out 4; have hfz20_5 := blk_frozen BK207.out 5; have hfz20_6 := blk_frozen BK207.out 6; have hfz20_7 := blk_frozen BK207.out 7))
                    go_meet
                    case rel => exact ⟨_, (false), (by first | rfl | (simp; done) | (simp [*]; done)), H', ⟨by have := HK1.out; first | omega | exact Nat.le_refl _⟩, ⟨by (with_reducible repeat (first | apply Kd.R_alloc | apply Kd.R_drewN | apply Kd.R_drew)); exact HO_8.out⟩, ⟨by (with_reducible repeat (first | refine blk_drewN ?_ _ | refine blk_drew ?_ | refine blk_alloc ?_ _)); exact BK203.out⟩, ⟨by (with_reducible repeat (first | refine blk_drewN ?_ _ | refine blk_drew ?_ | refine blk_alloc ?_ _)); exact BK207.out⟩, ⟨by repeat (first | (with_reducible first | exact HB.out | apply below_alloc | apply pw_below_drewN | apply below_drew1 | refine below_set ?_ GE203.out | refine below_set ?_ GE207.out) | exact HB.out)⟩⟩
                  · rw [if_neg c16] at H
                    have c16b0 : (((rd_T33 l0_1 x15_1).f0.f0) == a2) = false := beq_eq_false_iff_ne.mpr c16
                    have c16b1 : (((rd_T33 l0_1 x15_1).f0.f0) != a2) = true := bne_iff_ne.mpr c16
                    have H' := Aside0.mk H
                    clear H
                    have hnb21 := NB207_203.out
                    have hnc21 := NB203_207.out
                    have hcz22_0 : w10.cell? ⟨gb207, 0, none⟩ = some (.int .i64 0) := (blk_cell BK207.out 0).trans rfl
                    have hcz22_1 : w10.cell? ⟨gb207, 1, none⟩ = some (.int .i64 0) := (blk_cell BK207.out 1).trans rfl
                    have hcz22_2 : w10.cell? ⟨gb207, 2, none⟩ = some (.int .i64 0) := (blk_cell BK207.out 2).trans rfl
                    have hcz22_3 : w10.cell? ⟨gb207, 3, none⟩ = some (.int .i64 0) := (blk_cell BK207.out 3).trans rfl
                    have hcz22_4 : w10.cell? ⟨gb207, 4, none⟩ = some (.int .i64 0) := (blk_cell BK207.out 4).trans rfl
                    have hcz22_5 : w10.cell? ⟨gb207, 5, none⟩ = some (.int .i64 0) := (blk_cell BK207.out 5).trans rfl
                    have hcz22_6 : w10.cell? ⟨gb207, 6, none⟩ = some (.int .i64 0) := (blk_cell BK207.out 6).trans rfl
                    have hcz22_7 : w10.cell? ⟨gb207, 7, none⟩ = some (.int .i64 0) := (blk_cell BK207.out 7).trans rfl
                    have hfz22_0 := blk_frozen BK207.out 0
                    have hfz22_1 := blk_frozen BK207.out 1
                    have hfz22_2 := blk_frozen BK207.out 2
                    have hfz22_3 := blk_frozen BK207.out 3
                    have hfz22_4 := blk_frozen BK207.out 4
                    have hfz22_5 := blk_frozen BK207.out 5
                    have hfz22_6 := blk_frozen BK207.out 6
                    have hfz22_7 := blk_frozen BK207.out 7
                    go_wp2_with (first | ((with_reducible refine gate_callee (f := 26) rfl ?_); refine goesL_ (some 21) rfl rfl Try.func26 (by kernel_rfl) rfl #[.agg #[.int .i64 ((rd_T33 l0_1 x15_1).f0.f0), .int .i64 ((rd_T33 l0_1 x15_1).f0.f1), .int .i64 ((rd_T33 l0_1 x15_1).f1), .int .i64 ((rd_T33 l0_1 x15_1).f2), .int .i64 ((rd_T33 l0_1 x15_1).f3), .int .i64 ((rd_T33 l0_1 x15_1).f4), .int .i64 ((rd_T33 l0_1 x15_1).f5), .int .i64 ((rd_T33 l0_1 x15_1).f6)], .int .i64 a1] rfl (by (try simp only [List.map_toArray, List.map_cons, List.map_nil]); first | done | rfl | (simp only [List.length_drop, List.length_take]; rfl)) ?_; (with_reducible refine (book_open.calls ((rd_T33 l0_1 x15_1).f0.f0) ((rd_T33 l0_1 x15_1).f0.f1) ((rd_T33 l0_1 x15_1).f1) ((rd_T33 l0_1 x15_1).f2) ((rd_T33 l0_1 x15_1).f3) ((rd_T33 l0_1 x15_1).f4) ((rd_T33 l0_1 x15_1).f5) ((rd_T33 l0_1 x15_1).f6) a1 true _ A13.out).mono ?_); rintro e w23 ⟨rfl, hb⟩; refine ⟨_, rfl, ?_⟩; have n0_ := Aside0.mk (Kd.R_below (by (with_reducible repeat (first | apply Kd.R_alloc | apply Kd.R_drewN | apply Kd.R_drew)); exact (Kd.R_mono (Kd.R_far (p := ⟨gb207, 7, none⟩) (Kd.R_far (p := ⟨gb207, 6, none⟩) (Kd.R_far (p := ⟨gb207, 5, none⟩) (Kd.R_far (p := ⟨gb207, 4, none⟩) (Kd.R_far (p := ⟨gb207, 3, none⟩) (Kd.R_far (p := ⟨gb207, 2, none⟩) (Kd.R_far (p := ⟨gb207, 1, none⟩) (Kd.R_far (p := ⟨gb207, 0, none⟩) (Kd.R_types HO_8.out BK207.out (by decide)) (fun _ hk => hk.2) (.int .i64 ((rd_T33 l0_1 x15_1).f0.f0))) (fun _ hk => hk.2) (.int .i64 ((rd_T33 l0_1 x15_1).f0.f1))) (fun _ hk => hk.2) (.int .i64 ((rd_T33 l0_1 x15_1).f1))) (fun _ hk => hk.2) (.int .i64 ((rd_T33 l0_1 x15_1).f2))) (fun _ hk => hk.2) (.int .i64 ((rd_T33 l0_1 x15_1).f3))) (fun _ hk => hk.2) (.int .i64 ((rd_T33 l0_1 x15_1).f4))) (fun _ hk => hk.2) (.int .i64 ((rd_T33 l0_1 x15_1).f5))) (fun _ hk => hk.2) (.int .i64 ((rd_T33 l0_1 x15_1).f6))) (fun _ h_ => h_.1))) hb); have n1_ := Aside0.mk (blk_below (g := gb203) (o := .cells #[.int .i64 a0_0, .slice (some ad206) l0_1.length c0_1, .slice A0_2 l0_2.length c0_2] 26 (0, 0)) (by (with_reducible repeat (first | refine blk_drewN ?_ _ | refine blk_drew ?_ | refine blk_alloc ?_ _)); refine blk_far ?_ NB203_207.out _; (with_reducible repeat (first | refine blk_drewN ?_ _ | refine blk_drew ?_ | refine blk_alloc ?_ _)); refine blk_far ?_ NB203_207.out _; (with_reducible repeat (first | refine blk_drewN ?_ _ | refine blk_drew ?_ | refine blk_alloc ?_ _)); refine blk_far ?_ NB203_207.out _; (with_reducible repeat (first | refine blk_drewN ?_ _ | refine blk_drew ?_ | refine blk_alloc ?_ _)); refine blk_far ?_ NB203_207.out _; (with_reducible repeat (first | refine blk_drewN ?_ _ | refine blk_drew ?_ | refine blk_alloc ?_ _)); refine blk_far ?_ NB203_207.out _; (with_reducible repeat (first | refine blk_drewN ?_ _ | refine blk_drew ?_ | refine blk_alloc ?_ _)); refine blk_far ?_ NB203_207.out _; (with_reducible repeat (first | refine blk_drewN ?_ _ | refine blk_drew ?_ | refine blk_alloc ?_ _)); refine blk_far ?_ NB203_207.out _; (with_reducible repeat (first | refine blk_drewN ?_ _ | refine blk_drew ?_ | refine blk_alloc ?_ _)); refine blk_far ?_ NB203_207.out _; (with_reducible repeat (first | refine blk_drewN ?_ _ | refine blk_drew ?_ | refine blk_alloc ?_ _)); exact BK203.out) hb); have n2_ := Aside0.mk (blk_below (g := gb207) (o := .cells #[.int .i64 ((rd_T33 l0_1 x15_1).f0.f0), .int .i64 ((rd_T33 l0_1 x15_1).f0.f1), .int .i64 ((rd_T33 l0_1 x15_1).f1), .int .i64 ((rd_T33 l0_1 x15_1).f2), .int .i64 ((rd_T33 l0_1 x15_1).f3), .int .i64 ((rd_T33 l0_1 x15_1).f4), .int .i64 ((rd_T33 l0_1 x15_1).f5), .int .i64 ((rd_T33 l0_1 x15_1).f6)] 33 (0, 0)) (by (with_reducible repeat (first | refine blk_drewN ?_ _ | refine blk_drew ?_ | refine blk_alloc ?_ _)); refine blk_put (cs := #[.int .i64 ((rd_T33 l0_1 x15_1).f0.f0), .int .i64 ((rd_T33 l0_1 x15_1).f0.f1), .int .i64 ((rd_T33 l0_1 x15_1).f1), .int .i64 ((rd_T33 l0_1 x15_1).f2), .int .i64 ((rd_T33 l0_1 x15_1).f3), .int .i64 ((rd_T33 l0_1 x15_1).f4), .int .i64 ((rd_T33 l0_1 x15_1).f5), .int .i64 0]) ?_ 7 _ rfl; (with_reducible repeat (first | refine blk_drewN ?_ _ | refine blk_drew ?_ | refine blk_alloc ?_ _)); refine blk_put (cs := #[.int .i64 ((rd_T33 l0_1 x15_1).f0.f0), .int .i64 ((rd_T33 l0_1 x15_1).f0.f1), .int .i64 ((rd_T33 l0_1 x15_1).f1), .int .i64 ((rd_T33 l0_1 x15_1).f2), .int .i64 ((rd_T33 l0_1 x15_1).f3), .int .i64 ((rd_T33 l0_1 x15_1).f4), .int .i64 0, .int .i64 0]) ?_ 6 _ rfl; (with_reducible repeat (first | refine blk_drewN ?_ _ | refine blk_drew ?_ | refine blk_alloc ?_ _)); refine blk_put (cs := #[.int .i64 ((rd_T33 l0_1 x15_1).f0.f0), .int .i64 ((rd_T33 l0_1 x15_1).f0.f1), .int .i64 ((rd_T33 l0_1 x15_1).f1), .int .i64 ((rd_T33 l0_1 x15_1).f2), .int .i64 ((rd_T33 l0_1 x15_1).f3), .int .i64 0, .int .i64 0, .int .i64 0]) ?_ 5 _ rfl; (with_reducible repeat (first | refine blk_drewN ?_ _ | refine blk_drew ?_ | refine blk_alloc ?_ _)); refine blk_put (cs := #[.int .i64 ((rd_T33 l0_1 x15_1).f0.f0), .int .i64 ((rd_T33 l0_1 x15_1).f0.f1), .int .i64 ((rd_T33 l0_1 x15_1).f1), .int .i64 ((rd_T33 l0_1 x15_1).f2), .int .i64 0, .int .i64 0, .int .i64 0, .int .i64 0]) ?_ 4 _ rfl; (with_reducible repeat (first | refine blk_drewN ?_ _ | refine blk_drew ?_ | refine blk_alloc ?_ _)); refine blk_put (cs := #[.int .i64 ((rd_T33 l0_1 x15_1).f0.f0), .int .i64 ((rd_T33 l0_1 x15_1).f0.f1), .int .i64 ((rd_T33 l0_1 x15_1).f1), .int .i64 0, .int .i64 0, .int .i64 0, .int .i64 0, .int .i64 0]) ?_ 3 _ rfl; (with_reducible repeat (first | refine blk_drewN ?_ _ | refine blk_drew ?_ | refine blk_alloc ?_ _)); refine blk_put (cs := #[.int .i64 ((rd_T33 l0_1 x15_1).f0.f0), .int .i64 ((rd_T33 l0_1 x15_1).f0.f1), .int .i64 0, .int .i64 0, .int .i64 0, .int .i64 0, .int .i64 0, .int .i64 0]) ?_ 2 _ rfl; (with_reducible repeat (first | refine blk_drewN ?_ _ | refine blk_drew ?_ | refine blk_alloc ?_ _)); refine blk_put (cs := #[.int .i64 ((rd_T33 l0_1 x15_1).f0.f0), .int .i64 0, .int .i64 0, .int .i64 0, .int .i64 0, .int .i64 0, .int .i64 0, .int .i64 0]) ?_ 1 _ rfl; (with_reducible repeat (first | refine blk_drewN ?_ _ | refine blk_drew ?_ | refine blk_alloc ?_ _)); refine blk_put (cs := #[.int .i64 0, .int .i64 0, .int .i64 0, .int .i64 0, .int .i64 0, .int .i64 0, .int .i64 0, .int .i64 0]) ?_ 0 _ rfl; (with_reducible repeat (first | refine blk_drewN ?_ _ | refine blk_drew ?_ | refine blk_alloc ?_ _)); exact BK207.out) hb); have n3_ := Aside0.mk (below_step (by repeat (first | (with_reducible first | exact HB.out | apply below_alloc | apply pw_below_drewN | apply below_drew1 | refine below_set ?_ GE203.out | refine below_set ?_ GE207.out) | exact HB.out)) hb); clear HO_8; clear BK203; clear BK207; clear HB; have HO_8 := n0_; have BK203 := n1_; have BK207 := n2_; have HB := n3_; clear n0_ n1_ n2_ n3_; (try clear hb); (try clear hb2); (try clear hk); (try clear hi); have hcz24_0 : w23.cell? ⟨gb207, 0, none⟩ = some (.int .i64 ((rd_T33 l0_1 x15_1).f0.f0)) := (blk_cell BK207.out 0).trans rfl; have hcz24_1 : w23.cell? ⟨gb207, 1, none⟩ = some (.int .i64 ((rd_T33 l0_1 x15_1).f0.f1)) := (blk_cell BK207.out 1).trans rfl; have hcz24_2 : w23.cell? ⟨gb207, 2, none⟩ = some (.int .i64 ((rd_T33 l0_1 x15_1).f1)) := (blk_cell BK207.out 2).trans rfl; have hcz24_3 : w23.cell? ⟨gb207, 3, none⟩ = some (.int .i64 ((rd_T33 l0_1 x15_1).f2)) := (blk_cell BK207.out 3).trans rfl; have hcz24_4 : w23.cell? ⟨gb207, 4, none⟩ = some (.int .i64 ((rd_T33 l0_1 x15_1).f3)) := (blk_cell BK207.out 4).trans rfl; have hcz24_5 : w23.cell? ⟨gb207, 5, none⟩ = some (.int .i64 ((rd_T33 l0_1 x15_1).f4)) := (blk_cell BK207.out 5).trans rfl; have hcz24_6 : w23.cell? ⟨gb207, 6, none⟩ = some (.int .i64 ((rd_T33 l0_1 x15_1).f5)) := (blk_cell BK207.out 6).trans rfl; have hcz24_7 : w23.cell? ⟨gb207, 7, none⟩ = some (.int .i64 ((rd_T33 l0_1 x15_1).f6)) := (blk_cell BK207.out 7).trans rfl; have hfz24_0 := blk_frozen BK207.out 0; have hfz24_1 := blk_frozen BK207.out 1; have hfz24_2 := blk_frozen BK207.out 2; have hfz24_3 := blk_frozen BK207.out 3; have hfz24_4 := blk_frozen BK207.out 4; have hfz24_5 := blk_frozen BK207.out 5; have hfz24_6 := blk_frozen BK207.out 6; have hfz24_7 := blk_frozen BK207.out 7))
                    go_meet
                    case rel => exact ⟨_, ((((rd_T33 l0_1 x15_1).f1) != a2)), (by first | rfl | (simp; done) | (simp [*]; done)), H', ⟨by have := HK1.out; first | omega | exact Nat.le_refl _⟩, ⟨by (with_reducible repeat (first | apply Kd.R_alloc | apply Kd.R_drewN | apply Kd.R_drew)); exact HO_8.out⟩, ⟨by (with_reducible repeat (first | refine blk_drewN ?_ _ | refine blk_drew ?_ | refine blk_alloc ?_ _)); exact BK203.out⟩, ⟨by (with_reducible repeat (first | refine blk_drewN ?_ _ | refine blk_drew ?_ | refine blk_alloc ?_ _)); exact BK207.out⟩, ⟨by repeat (first | (with_reducible first | exact HB.out | apply below_alloc | apply pw_below_drewN | apply below_drew1 | refine below_set ?_ GE203.out | refine below_set ?_ GE207.out) | exact HB.out)⟩⟩
                · rw [if_neg c15] at H
                  have c15b0 : decide (0 ≤ a2) = false := decide_eq_false c15
                  clear c15
                  (first | rw [c15b0] | (simp only [i64_w, i32_w]; rw [c15b0]) | skip)
                  have H' := Aside0.mk H
                  clear H
                  have hnb25 := NB207_203.out
                  have hnc25 := NB203_207.out
                  have hcz26_0 : w10.cell? ⟨gb207, 0, none⟩ = some (.int .i64 0) := (blk_cell BK207.out 0).trans rfl
                  have hcz26_1 : w10.cell? ⟨gb207, 1, none⟩ = some (.int .i64 0) := (blk_cell BK207.out 1).trans rfl
                  have hcz26_2 : w10.cell? ⟨gb207, 2, none⟩ = some (.int .i64 0) := (blk_cell BK207.out 2).trans rfl
                  have hcz26_3 : w10.cell? ⟨gb207, 3, none⟩ = some (.int .i64 0) := (blk_cell BK207.out 3).trans rfl
                  have hcz26_4 : w10.cell? ⟨gb207, 4, none⟩ = some (.int .i64 0) := (blk_cell BK207.out 4).trans rfl
                  have hcz26_5 : w10.cell? ⟨gb207, 5, none⟩ = some (.int .i64 0) := (blk_cell BK207.out 5).trans rfl
                  have hcz26_6 : w10.cell? ⟨gb207, 6, none⟩ = some (.int .i64 0) := (blk_cell BK207.out 6).trans rfl
                  have hcz26_7 : w10.cell? ⟨gb207, 7, none⟩ = some (.int .i64 0) := (blk_cell BK207.out 7).trans rfl
                  have hfz26_0 := blk_frozen BK207.out 0
                  have hfz26_1 := blk_frozen BK207.out 1
                  have hfz26_2 := blk_frozen BK207.out 2
                  have hfz26_3 := blk_frozen BK207.out 3
                  have hfz26_4 := blk_frozen BK207.out 4
                  have hfz26_5 := blk_frozen BK207.out 5
                  have hfz26_6 := blk_frozen BK207.out 6
                  have hfz26_7 := blk_frozen BK207.out 7
                  go_wp2_with (first | ((with_reducible refine gate_callee (f := 26) rfl ?_); refine goesL_ (some 21) rfl rfl Try.func26 (by kernel_rfl) rfl #[.agg #[.int .i64 ((rd_T33 l0_1 x15_1).f0.f0), .int .i64 ((rd_T33 l0_1 x15_1).f0.f1), .int .i64 ((rd_T33 l0_1 x15_1).f1), .int .i64 ((rd_T33 l0_1 x15_1).f2), .int .i64 ((rd_T33 l0_1 x15_1).f3), .int .i64 ((rd_T33 l0_1 x15_1).f4), .int .i64 ((rd_T33 l0_1 x15_1).f5), .int .i64 ((rd_T33 l0_1 x15_1).f6)], .int .i64 a1] rfl (by (try simp only [List.map_toArray, List.map_cons, List.map_nil]); first | done | rfl | (simp only [List.length_drop, List.length_take]; rfl)) ?_; (with_reducible refine (book_open.calls ((rd_T33 l0_1 x15_1).f0.f0) ((rd_T33 l0_1 x15_1).f0.f1) ((rd_T33 l0_1 x15_1).f1) ((rd_T33 l0_1 x15_1).f2) ((rd_T33 l0_1 x15_1).f3) ((rd_T33 l0_1 x15_1).f4) ((rd_T33 l0_1 x15_1).f5) ((rd_T33 l0_1 x15_1).f6) a1 true _ A13.out).mono ?_); rintro e w27 ⟨rfl, hb⟩; refine ⟨_, rfl, ?_⟩; have n0_ := Aside0.mk (Kd.R_below (by (with_reducible repeat (first | apply Kd.R_alloc | apply Kd.R_drewN | apply Kd.R_drew)); exact (Kd.R_mono (Kd.R_far (p := ⟨gb207, 7, none⟩) (Kd.R_far (p := ⟨gb207, 6, none⟩) (Kd.R_far (p := ⟨gb207, 5, none⟩) (Kd.R_far (p := ⟨gb207, 4, none⟩) (Kd.R_far (p := ⟨gb207, 3, none⟩) (Kd.R_far (p := ⟨gb207, 2, none⟩) (Kd.R_far (p := ⟨gb207, 1, none⟩) (Kd.R_far (p := ⟨gb207, 0, none⟩) (Kd.R_types HO_8.out BK207.out (by decide)) (fun _ hk => hk.2) (.int .i64 ((rd_T33 l0_1 x15_1).f0.f0))) (fun _ hk => hk.2) (.int .i64 ((rd_T33 l0_1 x15_1).f0.f1))) (fun _ hk => hk.2) (.int .i64 ((rd_T33 l0_1 x15_1).f1))) (fun _ hk => hk.2) (.int .i64 ((rd_T33 l0_1 x15_1).f2))) (fun _ hk => hk.2) (.int .i64 ((rd_T33 l0_1 x15_1).f3))) (fun _ hk => hk.2) (.int .i64 ((rd_T33 l0_1 x15_1).f4))) (fun _ hk => hk.2) (.int .i64 ((rd_T33 l0_1 x15_1).f5))) (fun _ hk => hk.2) (.int .i64 ((rd_T33 l0_1 x15_1).f6))) (fun _ h_ => h_.1))) hb); have n1_ := Aside0.mk (blk_below (g := gb203) (o := .cells #[.int .i64 a0_0, .slice (some ad206) l0_1.length c0_1, .slice A0_2 l0_2.length c0_2] 26 (0, 0)) (by (with_reducible repeat (first | refine blk_drewN ?_ _ | refine blk_drew ?_ | refine blk_alloc ?_ _)); refine blk_far ?_ NB203_207.out _; (with_reducible repeat (first | refine blk_drewN ?_ _ | refine blk_drew ?_ | refine blk_alloc ?_ _)); refine blk_far ?_ NB203_207.out _; (with_reducible repeat (first | refine blk_drewN ?_ _ | refine blk_drew ?_ | refine blk_alloc ?_ _)); refine blk_far ?_ NB203_207.out _; (with_reducible repeat (first | refine blk_drewN ?_ _ | refine blk_drew ?_ | refine blk_alloc ?_ _)); refine blk_far ?_ NB203_207.out _; (with_reducible repeat (first | refine blk_drewN ?_ _ | refine blk_drew ?_ | refine blk_alloc ?_ _)); refine blk_far ?_ NB203_207.out _; (with_reducible repeat (first | refine blk_drewN ?_ _ | refine blk_drew ?_ | refine blk_alloc ?_ _)); refine blk_far ?_ NB203_207.out _; (with_reducible repeat (first | refine blk_drewN ?_ _ | refine blk_drew ?_ | refine blk_alloc ?_ _)); refine blk_far ?_ NB203_207.out _; (with_reducible repeat (first | refine blk_drewN ?_ _ | refine blk_drew ?_ | refine blk_alloc ?_ _)); refine blk_far ?_ NB203_207.out _; (with_reducible repeat (first | refine blk_drewN ?_ _ | refine blk_drew ?_ | refine blk_alloc ?_ _)); exact BK203.out) hb); have n2_ := Aside0.mk (blk_below (g := gb207) (o := .cells #[.int .i64 ((rd_T33 l0_1 x15_1).f0.f0), .int .i64 ((rd_T33 l0_1 x15_1).f0.f1), .int .i64 ((rd_T33 l0_1 x15_1).f1), .int .i64 ((rd_T33 l0_1 x15_1).f2), .int .i64 ((rd_T33 l0_1 x15_1).f3), .int .i64 ((rd_T33 l0_1 x15_1).f4), .int .i64 ((rd_T33 l0_1 x15_1).f5), .int .i64 ((rd_T33 l0_1 x15_1).f6)] 33 (0, 0)) (by (with_reducible repeat (first | refine blk_drewN ?_ _ | refine blk_drew ?_ | refine blk_alloc ?_ _)); refine blk_put (cs := #[.int .i64 ((rd_T33 l0_1 x15_1).f0.f0), .int .i64 ((rd_T33 l0_1 x15_1).f0.f1), .int .i64 ((rd_T33 l0_1 x15_1).f1), .int .i64 ((rd_T33 l0_1 x15_1).f2), .int .i64 ((rd_T33 l0_1 x15_1).f3), .int .i64 ((rd_T33 l0_1 x15_1).f4), .int .i64 ((rd_T33 l0_1 x15_1).f5), .int .i64 0]) ?_ 7 _ rfl; (with_reducible repeat (first | refine blk_drewN ?_ _ | refine blk_drew ?_ | refine blk_alloc ?_ _)); refine blk_put (cs := #[.int .i64 ((rd_T33 l0_1 x15_1).f0.f0), .int .i64 ((rd_T33 l0_1 x15_1).f0.f1), .int .i64 ((rd_T33 l0_1 x15_1).f1), .int .i64 ((rd_T33 l0_1 x15_1).f2), .int .i64 ((rd_T33 l0_1 x15_1).f3), .int .i64 ((rd_T33 l0_1 x15_1).f4), .int .i64 0, .int .i64 0]) ?_ 6 _ rfl; (with_reducible repeat (first | refine blk_drewN ?_ _ | refine blk_drew ?_ | refine blk_alloc ?_ _)); refine blk_put (cs := #[.int .i64 ((rd_T33 l0_1 x15_1).f0.f0), .int .i64 ((rd_T33 l0_1 x15_1).f0.f1), .int .i64 ((rd_T33 l0_1 x15_1).f1), .int .i64 ((rd_T33 l0_1 x15_1).f2), .int .i64 ((rd_T33 l0_1 x15_1).f3), .int .i64 0, .int .i64 0, .int .i64 0]) ?_ 5 _ rfl; (with_reducible repeat (first | refine blk_drewN ?_ _ | refine blk_drew ?_ | refine blk_alloc ?_ _)); refine blk_put (cs := #[.int .i64 ((rd_T33 l0_1 x15_1).f0.f0), .int .i64 ((rd_T33 l0_1 x15_1).f0.f1), .int .i64 ((rd_T33 l0_1 x15_1).f1), .int .i64 ((rd_T33 l0_1 x15_1).f2), .int .i64 0, .int .i64 0, .int .i64 0, .int .i64 0]) ?_ 4 _ rfl; (with_reducible repeat (first | refine blk_drewN ?_ _ | refine blk_drew ?_ | refine blk_alloc ?_ _)); refine blk_put (cs := #[.int .i64 ((rd_T33 l0_1 x15_1).f0.f0), .int .i64 ((rd_T33 l0_1 x15_1).f0.f1), .int .i64 ((rd_T33 l0_1 x15_1).f1), .int .i64 0, .int .i64 0, .int .i64 0, .int .i64 0, .int .i64 0]) ?_ 3 _ rfl; (with_reducible repeat (first | refine blk_drewN ?_ _ | refine blk_drew ?_ | refine blk_alloc ?_ _)); refine blk_put (cs := #[.int .i64 ((rd_T33 l0_1 x15_1).f0.f0), .int .i64 ((rd_T33 l0_1 x15_1).f0.f1), .int .i64 0, .int .i64 0, .int .i64 0, .int .i64 0, .int .i64 0, .int .i64 0]) ?_ 2 _ rfl; (with_reducible repeat (first | refine blk_drewN ?_ _ | refine blk_drew ?_ | refine blk_alloc ?_ _)); refine blk_put (cs := #[.int .i64 ((rd_T33 l0_1 x15_1).f0.f0), .int .i64 0, .int .i64 0, .int .i64 0, .int .i64 0, .int .i64 0, .int .i64 0, .int .i64 0]) ?_ 1 _ rfl; (with_reducible repeat (first | refine blk_drewN ?_ _ | refine blk_drew ?_ | refine blk_alloc ?_ _)); refine blk_put (cs := #[.int .i64 0, .int .i64 0, .int .i64 0, .int .i64 0, .int .i64 0, .int .i64 0, .int .i64 0, .int .i64 0]) ?_ 0 _ rfl; (with_reducible repeat (first | refine blk_drewN ?_ _ | refine blk_drew ?_ | refine blk_alloc ?_ _)); exact BK207.out) hb); have n3_ := Aside0.mk (below_step (by repeat (first | (with_reducible first | exact HB.out | apply below_alloc | apply pw_below_drewN | apply below_drew1 | refine below_set ?_ GE203.out | refine below_set ?_ GE207.out) | exact HB.out)) hb); clear HO_8; clear BK203; clear BK207; clear HB; have HO_8 := n0_; have BK203 := n1_; have BK207 := n2_; have HB := n3_; clear n0_ n1_ n2_ n3_; (try clear hb); (try clear hb2); (try clear hk); (try clear hi)))
                  go_meet
                  case rel => exact ⟨_, (false), (by first | rfl | (simp; done) | (simp [*]; done)), H', ⟨by have := HK1.out; first | omega | exact Nat.le_refl _⟩, ⟨by (with_reducible repeat (first | apply Kd.R_alloc | apply Kd.R_drewN | apply Kd.R_drew)); exact HO_8.out⟩, ⟨by (with_reducible repeat (first | refine blk_drewN ?_ _ | refine blk_drew ?_ | refine blk_alloc ?_ _)); exact BK203.out⟩, ⟨by (with_reducible repeat (first | refine blk_drewN ?_ _ | refine blk_drew ?_ | refine blk_alloc ?_ _)); exact BK207.out⟩, ⟨by repeat (first | (with_reducible first | exact HB.out | apply below_alloc | apply pw_below_drewN | apply below_drew1 | refine below_set ?_ GE203.out | refine below_set ?_ GE207.out) | exact HB.out)⟩⟩
              · replace c14 := Bool.eq_false_iff.mpr c14
                subst c14
                have H1 : (book_Book_Open.j1 k1 a1 a2 x8_1 l0_1 (l0_1.length : Int) x15_1 true a0_0 l0_1 l0_2 ((rd_T33 l0_1 x15_1).f0.f0) ((rd_T33 l0_1 x15_1).f0.f1) ((rd_T33 l0_1 x15_1).f1) ((rd_T33 l0_1 x15_1).f2) ((rd_T33 l0_1 x15_1).f3) ((rd_T33 l0_1 x15_1).f4) ((rd_T33 l0_1 x15_1).f5) ((rd_T33 l0_1 x15_1).f6)) = some (r1, r2) := by rw [if_neg (show ¬ (false = true) by decide)] at H; exact H
                clear H
                have H := H1
                clear H1
                have H' := Aside0.mk H
                clear H
                have hnb28 := NB207_203.out
                have hnc28 := NB203_207.out
                have hcz29_0 : w10.cell? ⟨gb207, 0, none⟩ = some (.int .i64 0) := (blk_cell BK207.out 0).trans rfl
                have hcz29_1 : w10.cell? ⟨gb207, 1, none⟩ = some (.int .i64 0) := (blk_cell BK207.out 1).trans rfl
                have hcz29_2 : w10.cell? ⟨gb207, 2, none⟩ = some (.int .i64 0) := (blk_cell BK207.out 2).trans rfl
                have hcz29_3 : w10.cell? ⟨gb207, 3, none⟩ = some (.int .i64 0) := (blk_cell BK207.out 3).trans rfl
                have hcz29_4 : w10.cell? ⟨gb207, 4, none⟩ = some (.int .i64 0) := (blk_cell BK207.out 4).trans rfl
                have hcz29_5 : w10.cell? ⟨gb207, 5, none⟩ = some (.int .i64 0) := (blk_cell BK207.out 5).trans rfl
                have hcz29_6 : w10.cell? ⟨gb207, 6, none⟩ = some (.int .i64 0) := (blk_cell BK207.out 6).trans rfl
                have hcz29_7 : w10.cell? ⟨gb207, 7, none⟩ = some (.int .i64 0) := (blk_cell BK207.out 7).trans rfl
                have hfz29_0 := blk_frozen BK207.out 0
                have hfz29_1 := blk_frozen BK207.out 1
                have hfz29_2 := blk_frozen BK207.out 2
                have hfz29_3 := blk_frozen BK207.out 3
                have hfz29_4 := blk_frozen BK207.out 4
                have hfz29_5 := blk_frozen BK207.out 5
                have hfz29_6 := blk_frozen BK207.out 6
                have hfz29_7 := blk_frozen BK207.out 7
                go_wp2_with (first | ((with_reducible refine gate_callee (f := 26) rfl ?_); refine goesL_ (some 21) rfl rfl Try.func26 (by kernel_rfl) rfl #[.agg #[.int .i64 ((rd_T33 l0_1 x15_1).f0.f0), .int .i64 ((rd_T33 l0_1 x15_1).f0.f1), .int .i64 ((rd_T33 l0_1 x15_1).f1), .int .i64 ((rd_T33 l0_1 x15_1).f2), .int .i64 ((rd_T33 l0_1 x15_1).f3), .int .i64 ((rd_T33 l0_1 x15_1).f4), .int .i64 ((rd_T33 l0_1 x15_1).f5), .int .i64 ((rd_T33 l0_1 x15_1).f6)], .int .i64 a1] rfl (by (try simp only [List.map_toArray, List.map_cons, List.map_nil]); first | done | rfl | (simp only [List.length_drop, List.length_take]; rfl)) ?_; (with_reducible refine (book_open.calls ((rd_T33 l0_1 x15_1).f0.f0) ((rd_T33 l0_1 x15_1).f0.f1) ((rd_T33 l0_1 x15_1).f1) ((rd_T33 l0_1 x15_1).f2) ((rd_T33 l0_1 x15_1).f3) ((rd_T33 l0_1 x15_1).f4) ((rd_T33 l0_1 x15_1).f5) ((rd_T33 l0_1 x15_1).f6) a1 false _ A13.out).mono ?_); rintro e w30 ⟨rfl, hb⟩; refine ⟨_, rfl, ?_⟩; have n0_ := Aside0.mk (Kd.R_below (by (with_reducible repeat (first | apply Kd.R_alloc | apply Kd.R_drewN | apply Kd.R_drew)); exact (Kd.R_mono (Kd.R_far (p := ⟨gb207, 7, none⟩) (Kd.R_far (p := ⟨gb207, 6, none⟩) (Kd.R_far (p := ⟨gb207, 5, none⟩) (Kd.R_far (p := ⟨gb207, 4, none⟩) (Kd.R_far (p := ⟨gb207, 3, none⟩) (Kd.R_far (p := ⟨gb207, 2, none⟩) (Kd.R_far (p := ⟨gb207, 1, none⟩) (Kd.R_far (p := ⟨gb207, 0, none⟩) (Kd.R_types HO_8.out BK207.out (by decide)) (fun _ hk => hk.2) (.int .i64 ((rd_T33 l0_1 x15_1).f0.f0))) (fun _ hk => hk.2) (.int .i64 ((rd_T33 l0_1 x15_1).f0.f1))) (fun _ hk => hk.2) (.int .i64 ((rd_T33 l0_1 x15_1).f1))) (fun _ hk => hk.2) (.int .i64 ((rd_T33 l0_1 x15_1).f2))) (fun _ hk => hk.2) (.int .i64 ((rd_T33 l0_1 x15_1).f3))) (fun _ hk => hk.2) (.int .i64 ((rd_T33 l0_1 x15_1).f4))) (fun _ hk => hk.2) (.int .i64 ((rd_T33 l0_1 x15_1).f5))) (fun _ hk => hk.2) (.int .i64 ((rd_T33 l0_1 x15_1).f6))) (fun _ h_ => h_.1))) hb); have n1_ := Aside0.mk (blk_below (g := gb203) (o := .cells #[.int .i64 a0_0, .slice (some ad206) l0_1.length c0_1, .slice A0_2 l0_2.length c0_2] 26 (0, 0)) (by (with_reducible repeat (first | refine blk_drewN ?_ _ | refine blk_drew ?_ | refine blk_alloc ?_ _)); refine blk_far ?_ NB203_207.out _; (with_reducible repeat (first | refine blk_drewN ?_ _ | refine blk_drew ?_ | refine blk_alloc ?_ _)); refine blk_far ?_ NB203_207.out _; (with_reducible repeat (first | refine blk_drewN ?_ _ | refine blk_drew ?_ | refine blk_alloc ?_ _)); refine blk_far ?_ NB203_207.out _; (with_reducible repeat (first | refine blk_drewN ?_ _ | refine blk_drew ?_ | refine blk_alloc ?_ _)); refine blk_far ?_ NB203_207.out _; (with_reducible repeat (first | refine blk_drewN ?_ _ | refine blk_drew ?_ | refine blk_alloc ?_ _)); refine blk_far ?_ NB203_207.out _; (with_reducible repeat (first | refine blk_drewN ?_ _ | refine blk_drew ?_ | refine blk_alloc ?_ _)); refine blk_far ?_ NB203_207.out _; (with_reducible repeat (first | refine blk_drewN ?_ _ | refine blk_drew ?_ | refine blk_alloc ?_ _)); refine blk_far ?_ NB203_207.out _; (with_reducible repeat (first | refine blk_drewN ?_ _ | refine blk_drew ?_ | refine blk_alloc ?_ _)); refine blk_far ?_ NB203_207.out _; (with_reducible repeat (first | refine blk_drewN ?_ _ | refine blk_drew ?_ | refine blk_alloc ?_ _)); exact BK203.out) hb); have n2_ := Aside0.mk (blk_below (g := gb207) (o := .cells #[.int .i64 ((rd_T33 l0_1 x15_1).f0.f0), .int .i64 ((rd_T33 l0_1 x15_1).f0.f1), .int .i64 ((rd_T33 l0_1 x15_1).f1), .int .i64 ((rd_T33 l0_1 x15_1).f2), .int .i64 ((rd_T33 l0_1 x15_1).f3), .int .i64 ((rd_T33 l0_1 x15_1).f4), .int .i64 ((rd_T33 l0_1 x15_1).f5), .int .i64 ((rd_T33 l0_1 x15_1).f6)] 33 (0, 0)) (by (with_reducible repeat (first | refine blk_drewN ?_ _ | refine blk_drew ?_ | refine blk_alloc ?_ _)); refine blk_put (cs := #[.int .i64 ((rd_T33 l0_1 x15_1).f0.f0), .int .i64 ((rd_T33 l0_1 x15_1).f0.f1), .int .i64 ((rd_T33 l0_1 x15_1).f1), .int .i64 ((rd_T33 l0_1 x15_1).f2), .int .i64 ((rd_T33 l0_1 x15_1).f3), .int .i64 ((rd_T33 l0_1 x15_1).f4), .int .i64 ((rd_T33 l0_1 x15_1).f5), .int .i64 0]) ?_ 7 _ rfl; (with_reducible repeat (first | refine blk_drewN ?_ _ | refine blk_drew ?_ | refine blk_alloc ?_ _)); refine blk_put (cs := #[.int .i64 ((rd_T33 l0_1 x15_1).f0.f0), .int .i64 ((rd_T33 l0_1 x15_1).f0.f1), .int .i64 ((rd_T33 l0_1 x15_1).f1), .int .i64 ((rd_T33 l0_1 x15_1).f2), .int .i64 ((rd_T33 l0_1 x15_1).f3), .int .i64 ((rd_T33 l0_1 x15_1).f4), .int .i64 0, .int .i64 0]) ?_ 6 _ rfl; (with_reducible repeat (first | refine blk_drewN ?_ _ | refine blk_drew ?_ | refine blk_alloc ?_ _)); refine blk_put (cs := #[.int .i64 ((rd_T33 l0_1 x15_1).f0.f0), .int .i64 ((rd_T33 l0_1 x15_1).f0.f1), .int .i64 ((rd_T33 l0_1 x15_1).f1), .int .i64 ((rd_T33 l0_1 x15_1).f2), .int .i64 ((rd_T33 l0_1 x15_1).f3), .int .i64 0, .int .i64 0, .int .i64 0]) ?_ 5 _ rfl; (with_reducible repeat (first | refine blk_drewN ?_ _ | refine blk_drew ?_ | refine blk_alloc ?_ _)); refine blk_put (cs := #[.int .i64 ((rd_T33 l0_1 x15_1).f0.f0), .int .i64 ((rd_T33 l0_1 x15_1).f0.f1), .int .i64 ((rd_T33 l0_1 x15_1).f1), .int .i64 ((rd_T33 l0_1 x15_1).f2), .int .i64 0, .int .i64 0, .int .i64 0, .int .i64 0]) ?_ 4 _ rfl; (with_reducible repeat (first | refine blk_drewN ?_ _ | refine blk_drew ?_ | refine blk_alloc ?_ _)); refine blk_put (cs := #[.int .i64 ((rd_T33 l0_1 x15_1).f0.f0), .int .i64 ((rd_T33 l0_1 x15_1).f0.f1), .int .i64 ((rd_T33 l0_1 x15_1).f1), .int .i64 0, .int .i64 0, .int .i64 0, .int .i64 0, .int .i64 0]) ?_ 3 _ rfl; (with_reducible repeat (first | refine blk_drewN ?_ _ | refine blk_drew ?_ | refine blk_alloc ?_ _)); refine blk_put (cs := #[.int .i64 ((rd_T33 l0_1 x15_1).f0.f0), .int .i64 ((rd_T33 l0_1 x15_1).f0.f1), .int .i64 0, .int .i64 0, .int .i64 0, .int .i64 0, .int .i64 0, .int .i64 0]) ?_ 2 _ rfl; (with_reducible repeat (first | refine blk_drewN ?_ _ | refine blk_drew ?_ | refine blk_alloc ?_ _)); refine blk_put (cs := #[.int .i64 ((rd_T33 l0_1 x15_1).f0.f0), .int .i64 0, .int .i64 0, .int .i64 0, .int .i64 0, .int .i64 0, .int .i64 0, .int .i64 0]) ?_ 1 _ rfl; (with_reducible repeat (first | refine blk_drewN ?_ _ | refine blk_drew ?_ | refine blk_alloc ?_ _)); refine blk_put (cs := #[.int .i64 0, .int .i64 0, .int .i64 0, .int .i64 0, .int .i64 0, .int .i64 0, .int .i64 0, .int .i64 0]) ?_ 0 _ rfl; (with_reducible repeat (first | refine blk_drewN ?_ _ | refine blk_drew ?_ | refine blk_alloc ?_ _)); exact BK207.out) hb); have n3_ := Aside0.mk (below_step (by repeat (first | (with_reducible first | exact HB.out | apply below_alloc | apply pw_below_drewN | apply below_drew1 | refine below_set ?_ GE203.out | refine below_set ?_ GE207.out) | exact HB.out)) hb); clear HO_8; clear BK203; clear BK207; clear HB; have HO_8 := n0_; have BK203 := n1_; have BK207 := n2_; have HB := n3_; clear n0_ n1_ n2_ n3_; (try clear hb); (try clear hb2); (try clear hk); (try clear hi)))
                go_meet
                case rel => exact ⟨_, (true), (by first | rfl | (simp; done) | (simp [*]; done)), H', ⟨by have := HK1.out; first | omega | exact Nat.le_refl _⟩, ⟨by (with_reducible repeat (first | apply Kd.R_alloc | apply Kd.R_drewN | apply Kd.R_drew)); exact HO_8.out⟩, ⟨by (with_reducible repeat (first | refine blk_drewN ?_ _ | refine blk_drew ?_ | refine blk_alloc ?_ _)); exact BK203.out⟩, ⟨by (with_reducible repeat (first | refine blk_drewN ?_ _ | refine blk_drew ?_ | refine blk_alloc ?_ _)); exact BK207.out⟩, ⟨by repeat (first | (with_reducible first | exact HB.out | apply below_alloc | apply pw_below_drewN | apply below_drew1 | refine below_set ?_ GE203.out | refine below_set ?_ GE207.out) | exact HB.out)⟩⟩
            case rest =>
              clear HC9
              try clear c1
              try clear c2
              try clear p2
              try clear q2
              try clear hx2
              try clear c6
              try clear c6b0
              try clear c7
              try clear c7b0
              try clear c8
              try clear c8b0
              try clear c11
              try clear c14
              try clear c15
              try clear c15b0
              try clear c16
              try clear c16b0
              try clear c16b1
              try clear c17
              try clear p20
              try clear q20
              try clear hx20
              try clear c21
              try clear c25
              try clear c26
              try clear c28
              try clear hcz12_0
              try clear hcz12_1
              try clear hcz12_2
              try clear hcz12_3
              try clear hcz12_4
              try clear hcz12_5
              try clear hcz12_6
              try clear hcz12_7
              try clear hcz18_0
              try clear hcz18_1
              try clear hcz18_2
              try clear hcz18_3
              try clear hcz18_4
              try clear hcz18_5
              try clear hcz18_6
              try clear hcz18_7
              try clear hcz20_0
              try clear hcz20_1
              try clear hcz20_2
              try clear hcz20_3
              try clear hcz20_4
              try clear hcz20_5
              try clear hcz20_6
              try clear hcz20_7
              try clear hcz22_0
              try clear hcz22_1
              try clear hcz22_2
              try clear hcz22_3
              try clear hcz22_4
              try clear hcz22_5
              try clear hcz22_6
              try clear hcz22_7
              try clear hcz24_0
              try clear hcz24_1
              try clear hcz24_2
              try clear hcz24_3
              try clear hcz24_4
              try clear hcz24_5
              try clear hcz24_6
              try clear hcz24_7
              try clear hcz26_0
              try clear hcz26_1
              try clear hcz26_2
              try clear hcz26_3
              try clear hcz26_4
              try clear hcz26_5
              try clear hcz26_6
              try clear hcz26_7
              try clear hcz29_0
              try clear hcz29_1
              try clear hcz29_2
              try clear hcz29_3
              try clear hcz29_4
              try clear hcz29_5
              try clear hcz29_6
              try clear hcz29_7
              try clear hcz5_0
              try clear hcz5_1
              try clear hcz5_2
              try clear hfz12_0
              try clear hfz12_1
              try clear hfz12_2
              try clear hfz12_3
              try clear hfz12_4
              try clear hfz12_5
              try clear hfz12_6
              try clear hfz12_7
              try clear hfz18_0
              try clear hfz18_1
              try clear hfz18_2
              try clear hfz18_3
              try clear hfz18_4
              try clear hfz18_5
              try clear hfz18_6
              try clear hfz18_7
              try clear hfz20_0
              try clear hfz20_1
              try clear hfz20_2
              try clear hfz20_3
              try clear hfz20_4
              try clear hfz20_5
              try clear hfz20_6
              try clear hfz20_7
              try clear hfz22_0
              try clear hfz22_1
              try clear hfz22_2
              try clear hfz22_3
              try clear hfz22_4
              try clear hfz22_5
              try clear hfz22_6
              try clear hfz22_7
              try clear hfz24_0
              try clear hfz24_1
              try clear hfz24_2
              try clear hfz24_3
              try clear hfz24_4
              try clear hfz24_5
              try clear hfz24_6
              try clear hfz24_7
              try clear hfz26_0
              try clear hfz26_1
              try clear hfz26_2
              try clear hfz26_3
              try clear hfz26_4
              try clear hfz26_5
              try clear hfz26_6
              try clear hfz26_7
              try clear hfz29_0
              try clear hfz29_1
              try clear hfz29_2
              try clear hfz29_3
              try clear hfz29_4
              try clear hfz29_5
              try clear hfz29_6
              try clear hfz29_7
              try clear hfz5_0
              try clear hfz5_1
              try clear hfz5_2
              try clear hx206_0
              try clear hx206_1
              try clear hx206_2
              try clear hx206_3
              try clear hx206_4
              try clear hx206_5
              try clear hx206_6
              try clear hx206_7
              try clear p2
              try clear p206
              try clear q206
              obtain ⟨kq, x39_8, rfl, HA, HJ8, HO_8, BK203, BK207, HB⟩ := hcut
              cases kq with
              | zero => exact absurd HA.out (by simp [book_Book_Open.j1])
              | succ kj8 =>
                have H := HA.out
                clear HA
                simp only [book_Book_Open.j1] at H
                by_cases c31 : x39_8 = true
                · subst c31
                  have H1 : (book_Book_Open.l0 kj8 a1 a2 x8_1 l0_1 (l0_1.length : Int) (wrap64 (x15_1 + 1)) a0_0 l0_1 l0_2) = some (r1, r2) := by rw [if_pos rfl] at H; exact H
                  clear H
                  have H := H1
                  clear H1
                  have H' := Aside0.mk H
                  clear H
                  go_wp2
                  go_roundg kj8
                  case measure => have := HK1.out; have := HJ8.out; omega
                  case rel => exact ⟨(x8_1), (wrap64 (x15_1 + 1)), (by first | rfl | (simp; done) | (simp [*]; done)), H', ⟨by have := HK1.out; have := HJ8.out; omega⟩, ⟨by (with_reducible repeat (first | apply Kd.R_alloc | apply Kd.R_drewN | apply Kd.R_drew)); exact HO_8.out⟩, ⟨by (with_reducible repeat (first | refine blk_drewN ?_ _ | refine blk_drew ?_ | refine blk_alloc ?_ _)); exact BK203.out⟩, ⟨by repeat (first | (with_reducible first | exact HB.out | apply below_alloc | apply pw_below_drewN | apply below_drew1 | refine below_set ?_ GE203.out | refine below_set ?_ GE207.out) | exact HB.out)⟩⟩
                · replace c31 := Bool.eq_false_iff.mpr c31
                  subst c31
                  have H1 : (if ((rd_T33 l0_1 x15_1).f1) = a0_0 then (if x8_1.length < 17592186044416 then (book_Book_Open.l0 kj8 a1 a2 (x8_1 ++ [wrap64 (-((rd_T33 l0_1 x15_1).f3))]) l0_1 (l0_1.length : Int) (wrap64 (x15_1 + 1)) a0_0 l0_1 l0_2) else (none)) else (if x8_1.length < 17592186044416 then (book_Book_Open.l0 kj8 a1 a2 (x8_1 ++ [((rd_T33 l0_1 x15_1).f3)]) l0_1 (l0_1.length : Int) (wrap64 (x15_1 + 1)) a0_0 l0_1 l0_2) else (none))) = some (r1, r2) := by rw [if_neg (show ¬ (false = true) by decide)] at H; exact H
                  clear H
                  have H := H1
                  clear H1
                  by_cases c32 : ((rd_T33 l0_1 x15_1).f1) = a0_0
                  · rw [if_pos c32] at H
                    have c32b0 : (((rd_T33 l0_1 x15_1).f1) == a0_0) = true := beq_iff_eq.mpr c32
                    have c32b1 : (((rd_T33 l0_1 x15_1).f1) != a0_0) = false := bne_eq_false_iff_eq.mpr c32
                    clear c32
                    by_cases c33 : x8_1.length < 17592186044416
                    · rw [if_pos c33] at H
                      have LMc33 := Aside0.mk c33
                      clear c33
                      obtain ⟨y209, hy209⟩ : ∃ y_ : List Int, y_ = (x8_1 ++ [wrap64 (-((rd_T33 l0_1 x15_1).f3))]) := ⟨_, rfl⟩
                      replace H : (book_Book_Open.l0 kj8 a1 a2 y209 l0_1 (l0_1.length : Int) (wrap64 (x15_1 + 1)) a0_0 l0_1 l0_2) = some (r1, r2) := by first | (rw [hy209]; with_reducible exact H) | (have H2_ := (Option.bind_some _ _).symm.trans H; rw [hy209]; with_reducible exact H2_) | (have H2_ := (Option.bind_some _ _).symm.trans H; with_reducible exact H2_) | with_reducible exact H | (rw [hy209]; exact H) | exact H
                      have Ny209 := Aside0.mk hy209
                      clear hy209
                      have H' := Aside0.mk H
                      clear H
                      have hnb34 := NB207_203.out
                      have hnc34 := NB203_207.out
                      have hcz35_0 : wc.cell? ⟨gb207, 0, none⟩ = some (.int .i64 ((rd_T33 l0_1 x15_1).f0.f0)) := (blk_cell BK207.out 0).trans rfl
                      have hcz35_1 : wc.cell? ⟨gb207, 1, none⟩ = some (.int .i64 ((rd_T33 l0_1 x15_1).f0.f1)) := (blk_cell BK207.out 1).trans rfl
                      have hcz35_2 : wc.cell? ⟨gb207, 2, none⟩ = some (.int .i64 ((rd_T33 l0_1 x15_1).f1)) := (blk_cell BK207.out 2).trans rfl
                      have hcz35_3 : wc.cell? ⟨gb207, 3, none⟩ = some (.int .i64 ((rd_T33 l0_1 x15_1).f2)) := (blk_cell BK207.out 3).trans rfl
                      have hcz35_4 : wc.cell? ⟨gb207, 4, none⟩ = some (.int .i64 ((rd_T33 l0_1 x15_1).f3)) := (blk_cell BK207.out 4).trans rfl
                      have hcz35_5 : wc.cell? ⟨gb207, 5, none⟩ = some (.int .i64 ((rd_T33 l0_1 x15_1).f4)) := (blk_cell BK207.out 5).trans rfl
                      have hcz35_6 : wc.cell? ⟨gb207, 6, none⟩ = some (.int .i64 ((rd_T33 l0_1 x15_1).f5)) := (blk_cell BK207.out 6).trans rfl
                      have hcz35_7 : wc.cell? ⟨gb207, 7, none⟩ = some (.int .i64 ((rd_T33 l0_1 x15_1).f6)) := (blk_cell BK207.out 7).trans rfl
                      have hfz35_0 := blk_frozen BK207.out 0
                      have hfz35_1 := blk_frozen BK207.out 1
                      have hfz35_2 := blk_frozen BK207.out 2
                      have hfz35_3 := blk_frozen BK207.out 3
                      have hfz35_4 := blk_frozen BK207.out 4
                      have hfz35_5 := blk_frozen BK207.out 5
                      have hfz35_6 := blk_frozen BK207.out 6
                      have hfz35_7 := blk_frozen BK207.out 7
                      have hcz36_0 : wc.cell? ⟨gb203, 0, none⟩ = some (.int .i64 a0_0) := (blk_cell BK203.out 0).trans rfl
                      have hcz36_1 : wc.cell? ⟨gb203, 1, none⟩ = some (.slice (some ad206) l0_1.length c0_1) := (blk_cell BK203.out 1).trans rfl
                      have hcz36_2 : wc.cell? ⟨gb203, 2, none⟩ = some (.slice A0_2 l0_2.length c0_2) := (blk_cell BK203.out 2).trans rfl
                      have hfz36_0 := blk_frozen BK203.out 0
                      have hfz36_1 := blk_frozen BK203.out 1
                      have hfz36_2 := blk_frozen BK203.out 2
                      go_wp2_with (first | ((with_reducible refine gate_builtin (b := .append) (xs := #[.tmp 49, .tmp 51]) rfl ?_); at_builtin; refine Kd.R_append (Kd.int .i64) (w0 := w) w.heap.size rfl (.tmp 49) (.tmp 51) 59 2 (.int .i64 0) 8 rfl Try.underlying59 info2 rfl (by decide) (by omega) u8 x8_1 (wrap64 (-((rd_T33 l0_1 x15_1).f3))) [.int .i64 (wrap64 (-((rd_T33 l0_1 x15_1).f3)))] (fun _ => True) (fun _ => False) rfl rfl ?aP (fun _ hk => hk.elim) ?aF ?aO ?aB ?aS ?aL ?_; (case aP => exact rfl); (case aB => exact (by repeat (first | (with_reducible first | exact HB.out | apply below_alloc | apply pw_below_drewN | apply below_drew1 | refine below_set ?_ GE203.out | refine below_set ?_ GE207.out) | exact HB.out))); (case aF => exact (fun _ _ => trivial)); (case aO => exact (by (with_reducible repeat (first | apply Kd.R_alloc | apply Kd.R_drewN | apply Kd.R_drew)); exact HO_8.out)); (case aS => exact (below_size (by repeat (first | (with_reducible first | exact HB.out | apply below_alloc | apply pw_below_drewN | apply below_drew1 | refine below_set ?_ GE203.out | refine below_set ?_ GE207.out) | exact HB.out)))); (case aL => have := LMc33.out; omega); intro v210 w37 ho hb hg hat; rw [← Ny209.out] at ho; have n0_ := Aside0.mk (blk_grown (g := gb203) (o := .cells #[.int .i64 a0_0, .slice (some ad206) l0_1.length c0_1, .slice A0_2 l0_2.length c0_2] 26 (0, 0)) (by (with_reducible repeat (first | refine blk_drewN ?_ _ | refine blk_drew ?_ | refine blk_alloc ?_ _)); exact BK203.out) hg (Kd.R_ne HO_8.out BK203.out (by decide))); have n1_ := Aside0.mk (blk_grown (g := gb207) (o := .cells #[.int .i64 ((rd_T33 l0_1 x15_1).f0.f0), .int .i64 ((rd_T33 l0_1 x15_1).f0.f1), .int .i64 ((rd_T33 l0_1 x15_1).f1), .int .i64 ((rd_T33 l0_1 x15_1).f2), .int .i64 ((rd_T33 l0_1 x15_1).f3), .int .i64 ((rd_T33 l0_1 x15_1).f4), .int .i64 ((rd_T33 l0_1 x15_1).f5), .int .i64 ((rd_T33 l0_1 x15_1).f6)] 33 (0, 0)) (by (with_reducible repeat (first | refine blk_drewN ?_ _ | refine blk_drew ?_ | refine blk_alloc ?_ _)); exact BK207.out) hg (Kd.R_ne HO_8.out BK207.out (by decide))); have n2_ := Aside0.mk (hb); have n3_ := Aside0.mk (ho); clear BK203; clear BK207; clear HB; clear HO_8; have BK203 := n0_; have BK207 := n1_; have HB := n2_; have HO211 := n3_; clear n0_ n1_ n2_ n3_; clear ho hb hg hat))
                      go_roundg kj8
                      case measure => have := HK1.out; have := HJ8.out; omega
                      case rel => exact ⟨(y209), (wrap64 (x15_1 + 1)), (by first | rfl | (simp; done) | (simp [*]; done)), H', ⟨by have := HK1.out; have := HJ8.out; omega⟩, ⟨by (with_reducible repeat (first | apply Kd.R_alloc | apply Kd.R_drewN | apply Kd.R_drew)); exact HO211.out⟩, ⟨by (with_reducible repeat (first | refine blk_drewN ?_ _ | refine blk_drew ?_ | refine blk_alloc ?_ _)); exact BK203.out⟩, ⟨by repeat (first | (with_reducible first | exact HB.out | apply below_alloc | apply pw_below_drewN | apply below_drew1 | refine below_set ?_ GE203.out | refine below_set ?_ GE207.out) | exact HB.out)⟩⟩
                    · rw [if_neg c33] at H
                      exact absurd H (by simp)
                  · rw [if_neg c32] at H
                    have c32b0 : (((rd_T33 l0_1 x15_1).f1) == a0_0) = false := beq_eq_false_iff_ne.mpr c32
                    have c32b1 : (((rd_T33 l0_1 x15_1).f1) != a0_0) = true := bne_iff_ne.mpr c32
                    by_cases c38 : x8_1.length < 17592186044416
                    · rw [if_pos c38] at H
                      have LMc38 := Aside0.mk c38
                      clear c38
                      obtain ⟨y212, hy212⟩ : ∃ y_ : List Int, y_ = (x8_1 ++ [((rd_T33 l0_1 x15_1).f3)]) := ⟨_, rfl⟩
                      replace H : (book_Book_Open.l0 kj8 a1 a2 y212 l0_1 (l0_1.length : Int) (wrap64 (x15_1 + 1)) a0_0 l0_1 l0_2) = some (r1, r2) := by first | (rw [hy212]; with_reducible exact H) | (have H2_ := (Option.bind_some _ _).symm.trans H; rw [hy212]; with_reducible exact H2_) | (have H2_ := (Option.bind_some _ _).symm.trans H; with_reducible exact H2_) | with_reducible exact H | (rw [hy212]; exact H) | exact H
                      have Ny212 := Aside0.mk hy212
                      clear hy212
                      have H' := Aside0.mk H
                      clear H
                      have hnb39 := NB207_203.out
                      have hnc39 := NB203_207.out
                      have hcz40_0 : wc.cell? ⟨gb207, 0, none⟩ = some (.int .i64 ((rd_T33 l0_1 x15_1).f0.f0)) := (blk_cell BK207.out 0).trans rfl
                      have hcz40_1 : wc.cell? ⟨gb207, 1, none⟩ = some (.int .i64 ((rd_T33 l0_1 x15_1).f0.f1)) := (blk_cell BK207.out 1).trans rfl
                      have hcz40_2 : wc.cell? ⟨gb207, 2, none⟩ = some (.int .i64 ((rd_T33 l0_1 x15_1).f1)) := (blk_cell BK207.out 2).trans rfl
                      have hcz40_3 : wc.cell? ⟨gb207, 3, none⟩ = some (.int .i64 ((rd_T33 l0_1 x15_1).f2)) := (blk_cell BK207.out 3).trans rfl
                      have hcz40_4 : wc.cell? ⟨gb207, 4, none⟩ = some (.int .i64 ((rd_T33 l0_1 x15_1).f3)) := (blk_cell BK207.out 4).trans rfl
                      have hcz40_5 : wc.cell? ⟨gb207, 5, none⟩ = some (.int .i64 ((rd_T33 l0_1 x15_1).f4)) := (blk_cell BK207.out 5).trans rfl
                      have hcz40_6 : wc.cell? ⟨gb207, 6, none⟩ = some (.int .i64 ((rd_T33 l0_1 x15_1).f5)) := (blk_cell BK207.out 6).trans rfl
                      have hcz40_7 : wc.cell? ⟨gb207, 7, none⟩ = some (.int .i64 ((rd_T33 l0_1 x15_1).f6)) := (blk_cell BK207.out 7).trans rfl
                      have hfz40_0 := blk_frozen BK207.out 0
                      have hfz40_1 := blk_frozen BK207.out 1
                      have hfz40_2 := blk_frozen BK207.out 2
                      have hfz40_3 := blk_frozen BK207.out 3
                      have hfz40_4 := blk_frozen BK207.out 4
                      have hfz40_5 := blk_frozen BK207.out 5
                      have hfz40_6 := blk_frozen BK207.out 6
                      have hfz40_7 := blk_frozen BK207.out 7
                      have hcz41_0 : wc.cell? ⟨gb203, 0, none⟩ = some (.int .i64 a0_0) := (blk_cell BK203.out 0).trans rfl
                      have hcz41_1 : wc.cell? ⟨gb203, 1, none⟩ = some (.slice (some ad206) l0_1.length c0_1) := (blk_cell BK203.out 1).trans rfl
                      have hcz41_2 : wc.cell? ⟨gb203, 2, none⟩ = some (.slice A0_2 l0_2.length c0_2) := (blk_cell BK203.out 2).trans rfl
                      have hfz41_0 := blk_frozen BK203.out 0
                      have hfz41_1 := blk_frozen BK203.out 1
                      have hfz41_2 := blk_frozen BK203.out 2
                      go_wp2_with (first | ((with_reducible refine gate_builtin (b := .append) (xs := #[.tmp 49, .tmp 51]) rfl ?_); at_builtin; refine Kd.R_append (Kd.int .i64) (w0 := w) w.heap.size rfl (.tmp 49) (.tmp 51) 59 2 (.int .i64 0) 8 rfl Try.underlying59 info2 rfl (by decide) (by omega) u8 x8_1 ((rd_T33 l0_1 x15_1).f3) [.int .i64 ((rd_T33 l0_1 x15_1).f3)] (fun _ => True) (fun _ => False) rfl rfl ?aP (fun _ hk => hk.elim) ?aF ?aO ?aB ?aS ?aL ?_; (case aP => exact rfl); (case aB => exact (by repeat (first | (with_reducible first | exact HB.out | apply below_alloc | apply pw_below_drewN | apply below_drew1 | refine below_set ?_ GE203.out | refine below_set ?_ GE207.out) | exact HB.out))); (case aF => exact (fun _ _ => trivial)); (case aO => exact (by (with_reducible repeat (first | apply Kd.R_alloc | apply Kd.R_drewN | apply Kd.R_drew)); exact HO_8.out)); (case aS => exact (below_size (by repeat (first | (with_reducible first | exact HB.out | apply below_alloc | apply pw_below_drewN | apply below_drew1 | refine below_set ?_ GE203.out | refine below_set ?_ GE207.out) | exact HB.out)))); (case aL => have := LMc38.out; omega); intro v213 w42 ho hb hg hat; rw [← Ny212.out] at ho; have n0_ := Aside0.mk (blk_grown (g := gb203) (o := .cells #[.int .i64 a0_0, .slice (some ad206) l0_1.length c0_1, .slice A0_2 l0_2.length c0_2] 26 (0, 0)) (by (with_reducible repeat (first | refine blk_drewN ?_ _ | refine blk_drew ?_ | refine blk_alloc ?_ _)); exact BK203.out) hg (Kd.R_ne HO_8.out BK203.out (by decide))); have n1_ := Aside0.mk (blk_grown (g := gb207) (o := .cells #[.int .i64 ((rd_T33 l0_1 x15_1).f0.f0), .int .i64 ((rd_T33 l0_1 x15_1).f0.f1), .int .i64 ((rd_T33 l0_1 x15_1).f1), .int .i64 ((rd_T33 l0_1 x15_1).f2), .int .i64 ((rd_T33 l0_1 x15_1).f3), .int .i64 ((rd_T33 l0_1 x15_1).f4), .int .i64 ((rd_T33 l0_1 x15_1).f5), .int .i64 ((rd_T33 l0_1 x15_1).f6)] 33 (0, 0)) (by (with_reducible repeat (first | refine blk_drewN ?_ _ | refine blk_drew ?_ | refine blk_alloc ?_ _)); exact BK207.out) hg (Kd.R_ne HO_8.out BK207.out (by decide))); have n2_ := Aside0.mk (hb); have n3_ := Aside0.mk (ho); clear BK203; clear BK207; clear HB; clear HO_8; have BK203 := n0_; have BK207 := n1_; have HB := n2_; have HO214 := n3_; clear n0_ n1_ n2_ n3_; clear ho hb hg hat))
                      go_roundg kj8
                      case measure => have := HK1.out; have := HJ8.out; omega
                      case rel => exact ⟨(y212), (wrap64 (x15_1 + 1)), (by first | rfl | (simp; done) | (simp [*]; done)), H', ⟨by have := HK1.out; have := HJ8.out; omega⟩, ⟨by (with_reducible repeat (first | apply Kd.R_alloc | apply Kd.R_drewN | apply Kd.R_drew)); exact HO214.out⟩, ⟨by (with_reducible repeat (first | refine blk_drewN ?_ _ | refine blk_drew ?_ | refine blk_alloc ?_ _)); exact BK203.out⟩, ⟨by repeat (first | (with_reducible first | exact HB.out | apply below_alloc | apply pw_below_drewN | apply below_drew1 | refine below_set ?_ GE203.out | refine below_set ?_ GE207.out) | exact HB.out)⟩⟩
                    · rw [if_neg c38] at H
                      exact absurd H (by simp)
          · rw [if_neg c8] at H
            exact absurd H (by simp)
        · rw [if_neg c7] at H
          exact absurd H (by simp)
      · rw [if_neg c6] at H
        have c6b0 : decide (x15_1 < (l0_1.length : Int)) = false := decide_eq_false c6
        clear c6
        replace H := Option.bind_eq_some_iff.mp H
        obtain ⟨⟨t204, t205⟩, A430, H⟩ := H
        replace H : (some (t204, t205)) = some (r1, r2) := H
        have A43 := Aside0.mk A430
        clear A430
        simp only [Option.some.injEq, Prod.mk.injEq] at H
        obtain ⟨rfl, rfl⟩ := H
        obtain ⟨Ao44, co44, eo44⟩ := Kd.R_slice HO_8.out
        subst eo44
        go_wp2_with (first | ((with_reducible refine gate_callee (f := 27) rfl ?_); refine goesL_ (some 55) rfl rfl Try.func27 (by kernel_rfl) rfl #[.slice Ao44 x8_1.length co44] rfl (by (try simp only [List.map_toArray, List.map_cons, List.map_nil]); first | done | rfl | (simp only [List.length_drop, List.length_take]; rfl)) ?_; (with_reducible refine (money_Sum.calls k1 _ _ x8_1 t204 t205 _ ?side1 ?side2 A43.out).mono ?_); (case side1 => repeat (first | exact (Kd.R_reads' HO_8.out).2.2 | (with_reducible refine Kd.C_alloc ?_ _) | (with_reducible refine Kd.C_drewN ?_ _) | (with_reducible refine Kd.C_drew ?_))); (case side2 => exact (Kd.R_reads' HO_8.out).2.1); rintro e w45 ⟨rfl, hb⟩; refine ⟨_, rfl, ?_⟩; have n0_ := Aside0.mk (Kd.R_below (by (with_reducible repeat (first | apply Kd.R_alloc | apply Kd.R_drewN | apply Kd.R_drew)); exact HO_8.out) hb); have n1_ := Aside0.mk (blk_below (g := gb203) (o := .cells #[.int .i64 a0_0, .slice A0_1 l0_1.length c0_1, .slice A0_2 l0_2.length c0_2] 26 (0, 0)) (by (with_reducible repeat (first | refine blk_drewN ?_ _ | refine blk_drew ?_ | refine blk_alloc ?_ _)); exact BK203.out) hb); have n2_ := Aside0.mk (below_step (by repeat (first | (with_reducible first | exact HB.out | apply below_alloc | apply pw_below_drewN | apply below_drew1 | refine below_set ?_ GE203.out) | exact HB.out)) hb); clear HO_8; clear BK203; clear HB; have HO_8 := n0_; have BK203 := n1_; have HB := n2_; clear n0_ n1_ n2_; (try clear hb); (try clear hb2); (try clear hk); (try clear hi)))
        go_ret2
        exact ⟨by first | rfl | (simp [errW_none, errW_some] <;> rfl) | (simp [*, errW_none, errW_some] <;> rfl), by repeat (first | (with_reducible first | exact HB.out | apply below_alloc | apply pw_below_drewN | apply below_drew1 | refine below_set ?_ GE203.out) | exact HB.out)⟩

/-! ### money_Neg: function 17 -/
def money_Neg.f (a0 : Int) : Option (Int × Int) := if a0 = (-9223372036854775808) then (some (0, 10)) else (some (wrap64 (-a0), 0))
set_option maxHeartbeats 8000000 in
set_option maxRecDepth 100000 in
theorem money_Neg.calls (a0 : Int) (r1 : Int) (r2 : Int) (w : World) (h : money_Neg.f a0 = some (r1, r2)) :
    Calls Try.prog 17 #[.int .i64 a0] w fun e w' => e = .returned (.tuple #[.int .i64 r1, .int .i64 r2]) ∧ Drawn0 w w' := by
  have H : (if a0 = (-9223372036854775808) then (some (0, 10)) else (some (wrap64 (-a0), 0))) = some (r1, r2) := h
  clear h
  by_cases c2 : a0 = (-9223372036854775808)
  · rw [if_pos c2] at H
    have c2b0 : (a0 == (-9223372036854775808)) = true := beq_iff_eq.mpr c2
    have c2b1 : (a0 != (-9223372036854775808)) = false := bne_eq_false_iff_eq.mpr c2
    clear c2
    simp only [Option.some.injEq, Prod.mk.injEq] at H
    obtain ⟨rfl, rfl⟩ := H
    go_enter Try.func17, Try.ntmps17
    go_wp2
    go_ret2
    exact ⟨by first | rfl | (simp; done) | (simp [*]; done), by repeat (first | exact Drawn0.refl _ | apply Drawn0.step)⟩
  · rw [if_neg c2] at H
    have c2b0 : (a0 == (-9223372036854775808)) = false := beq_eq_false_iff_ne.mpr c2
    have c2b1 : (a0 != (-9223372036854775808)) = true := bne_iff_ne.mpr c2
    simp only [Option.some.injEq, Prod.mk.injEq] at H
    obtain ⟨rfl, rfl⟩ := H
    go_enter Try.func17, Try.ntmps17
    go_wp2
    go_ret2
    exact ⟨by first | rfl | (simp; done) | (simp [*]; done), by repeat (first | exact Drawn0.refl _ | apply Drawn0.step)⟩

-- NOT PRINTED: function 28 (vector_Position_28)

/-! ### vector_compare: function 29 -/
def vector_compare.f (a0_0 : Int) (a0_1 : Int) (a0_2 : Int) (a1_0 : Int) (a1_1 : Int) (a1_2 : Int) : Option (Int) := if a0_0 = a1_0 then (some (wrap64 (a0_1 - a1_1))) else (some (wrap64 (a0_0 - a1_0)))
set_option maxHeartbeats 8000000 in
set_option maxRecDepth 100000 in
theorem vector_compare.calls (a0_0 : Int) (a0_1 : Int) (a0_2 : Int) (a1_0 : Int) (a1_1 : Int) (a1_2 : Int) (r : Int) (w : World) (h : vector_compare.f a0_0 a0_1 a0_2 a1_0 a1_1 a1_2 = some r) :
    Calls Try.prog 29 #[.agg #[.int .i64 a0_0, .int .i64 a0_1, .int .i64 a0_2], .agg #[.int .i64 a1_0, .int .i64 a1_1, .int .i64 a1_2]] w fun e w' => e = .returned (.int .i64 r) ∧ Below w.heap.size w w' := by
  have hu63 := Try.underlying63
  have HB := Aside0.mk (Below.refl w.heap.size w)
  have H : (if a0_0 = a1_0 then (some (wrap64 (a0_1 - a1_1))) else (some (wrap64 (a0_0 - a1_0)))) = some r := h
  clear h
  by_cases c3 : a0_0 = a1_0
  · rw [if_pos c3] at H
    have c3b0 : (a0_0 == a1_0) = true := beq_iff_eq.mpr c3
    have c3b1 : (a0_0 != a1_0) = false := bne_eq_false_iff_eq.mpr c3
    clear c3
    obtain rfl := Option.some.inj H
    go_enter Try.func29, Try.ntmps29
    go_wp2_with (first | ((with_reducible refine gate_dst (N := 2) rfl ?_); refine box_event ?hg (N := 2) ?hd (cs := #[.int .i64 a0_0, .int .i64 a0_1, .int .i64 a0_2]) (t := 63) ?hr ?_; (case hd => rfl); (case hg => rfl); (case hr => first | (go_simp; done) | (go_simp; rfl)); intro gb215 hg w4 hbox hb; have n0_ := Aside0.mk (below_step (by repeat (first | (with_reducible first | exact HB.out | apply below_alloc | apply pw_below_drewN | apply below_drew1) | exact HB.out)) hb); have n1_ := Aside0.mk (hbox); have n2_ := Aside0.mk ((by rw [hg]; exact (below_size (by repeat (first | (with_reducible first | exact HB.out | apply below_alloc | apply pw_below_drewN | apply below_drew1) | exact HB.out))) : w.heap.size ≤ gb215)); have n3_ := Aside0.mk ((by rw [hg]; exact (below_size (by repeat (first | (with_reducible first | exact HB.out | apply below_alloc | apply pw_below_drewN | apply below_drew1) | exact HB.out))) : w.heap.size ≤ gb215)); clear HB; have HB := n0_; have BK215 := n1_; have GW215 := n2_; have GE215 := n3_; clear n0_ n1_ n2_ n3_; clear hb hbox hg) | ((with_reducible refine gate_dst (N := 3) rfl ?_); refine box_event ?hg (N := 3) ?hd (cs := #[.int .i64 a1_0, .int .i64 a1_1, .int .i64 a1_2]) (t := 63) ?hr ?_; (case hd => rfl); (case hg => rfl); (case hr => first | (go_simp; done) | (go_simp; rfl)); intro gb216 hg w5 hbox hb; have n0_ := Aside0.mk (blk_below (g := gb215) (o := .cells #[.int .i64 a0_0, .int .i64 a0_1, .int .i64 a0_2] 63 (0, 0)) (by (with_reducible repeat (first | refine blk_drewN ?_ _ | refine blk_drew ?_ | refine blk_alloc ?_ _)); exact BK215.out) hb); have n1_ := Aside0.mk (below_step (by repeat (first | (with_reducible first | exact HB.out | apply below_alloc | apply pw_below_drewN | apply below_drew1 | refine below_set ?_ GE215.out) | exact HB.out)) hb); have n2_ := Aside0.mk (hbox); have n3_ := Aside0.mk ((by rw [hg]; exact (below_size (by repeat (first | (with_reducible first | exact HB.out | apply below_alloc | apply pw_below_drewN | apply below_drew1 | refine below_set ?_ GE215.out) | exact HB.out))) : w.heap.size ≤ gb216)); have n4_ := Aside0.mk ((by rw [hg]; exact (below_size (by repeat (first | (with_reducible first | exact HB.out | apply below_alloc | apply pw_below_drewN | apply below_drew1 | refine below_set ?_ GE215.out) | exact HB.out))) : w.heap.size ≤ gb216)); have n5_ := Aside0.mk ((by rw [hg]; exact Nat.ne_of_lt (blk_lt (g := gb215) (o := .cells #[.int .i64 a0_0, .int .i64 a0_1, .int .i64 a0_2] 63 (0, 0)) (by (with_reducible repeat (first | refine blk_drewN ?_ _ | refine blk_drew ?_ | refine blk_alloc ?_ _)); exact BK215.out)) : gb215 ≠ gb216)); have n6_ := Aside0.mk ((by rw [hg]; exact Nat.ne_of_gt (blk_lt (g := gb215) (o := .cells #[.int .i64 a0_0, .int .i64 a0_1, .int .i64 a0_2] 63 (0, 0)) (by (with_reducible repeat (first | refine blk_drewN ?_ _ | refine blk_drew ?_ | refine blk_alloc ?_ _)); exact BK215.out)) : gb216 ≠ gb215)); clear BK215; clear HB; have BK215 := n0_; have HB := n1_; have BK216 := n2_; have GW216 := n3_; have GE216 := n4_; have NB215_216 := n5_; have NB216_215 := n6_; clear n0_ n1_ n2_ n3_ n4_ n5_ n6_; clear hb hbox hg; have hnb6 := NB215_216.out; have hnc6 := NB216_215.out; have hcz7_0 : w5.cell? ⟨gb215, 0, none⟩ = some (.int .i64 a0_0) := (blk_cell BK215.out 0).trans rfl; have hcz7_1 : w5.cell? ⟨gb215, 1, none⟩ = some (.int .i64 a0_1) := (blk_cell BK215.out 1).trans rfl; have hcz7_2 : w5.cell? ⟨gb215, 2, none⟩ = some (.int .i64 a0_2) := (blk_cell BK215.out 2).trans rfl; have hfz7_0 := blk_frozen BK215.out 0; have hfz7_1 := blk_frozen BK215.out 1; have hfz7_2 := blk_frozen BK215.out 2; have hcz8_0 : w5.cell? ⟨gb216, 0, none⟩ = some (.int .i64 a1_0) := (blk_cell BK216.out 0).trans rfl; have hcz8_1 : w5.cell? ⟨gb216, 1, none⟩ = some (.int .i64 a1_1) := (blk_cell BK216.out 1).trans rfl; have hcz8_2 : w5.cell? ⟨gb216, 2, none⟩ = some (.int .i64 a1_2) := (blk_cell BK216.out 2).trans rfl; have hfz8_0 := blk_frozen BK216.out 0; have hfz8_1 := blk_frozen BK216.out 1; have hfz8_2 := blk_frozen BK216.out 2))
    go_ret
    exact ⟨by first | rfl | (simp [errW_none, errW_some] <;> rfl) | (simp [*, errW_none, errW_some] <;> rfl), by repeat (first | (with_reducible first | exact HB.out | apply below_alloc | apply pw_below_drewN | apply below_drew1 | refine below_set ?_ GE215.out | refine below_set ?_ GE216.out) | exact HB.out)⟩
  · rw [if_neg c3] at H
    have c3b0 : (a0_0 == a1_0) = false := beq_eq_false_iff_ne.mpr c3
    have c3b1 : (a0_0 != a1_0) = true := bne_iff_ne.mpr c3
    obtain rfl := Option.some.inj H
    go_enter Try.func29, Try.ntmps29
    go_wp2_with (first | ((with_reducible refine gate_dst (N := 2) rfl ?_); refine box_event ?hg (N := 2) ?hd (cs := #[.int .i64 a0_0, .int .i64 a0_1, .int .i64 a0_2]) (t := 63) ?hr ?_; (case hd => rfl); (case hg => rfl); (case hr => first | (go_simp; done) | (go_simp; rfl)); intro gb215 hg w9 hbox hb; have n0_ := Aside0.mk (below_step (by repeat (first | (with_reducible first | exact HB.out | apply below_alloc | apply pw_below_drewN | apply below_drew1) | exact HB.out)) hb); have n1_ := Aside0.mk (hbox); have n2_ := Aside0.mk ((by rw [hg]; exact (below_size (by repeat (first | (with_reducible first | exact HB.out | apply below_alloc | apply pw_below_drewN | apply below_drew1) | exact HB.out))) : w.heap.size ≤ gb215)); have n3_ := Aside0.mk ((by rw [hg]; exact (below_size (by repeat (first | (with_reducible first | exact HB.out | apply below_alloc | apply pw_below_drewN | apply below_drew1) | exact HB.out))) : w.heap.size ≤ gb215)); clear HB; have HB := n0_; have BK215 := n1_; have GW215 := n2_; have GE215 := n3_; clear n0_ n1_ n2_ n3_; clear hb hbox hg) | ((with_reducible refine gate_dst (N := 3) rfl ?_); refine box_event ?hg (N := 3) ?hd (cs := #[.int .i64 a1_0, .int .i64 a1_1, .int .i64 a1_2]) (t := 63) ?hr ?_; (case hd => rfl); (case hg => rfl); (case hr => first | (go_simp; done) | (go_simp; rfl)); intro gb216 hg w10 hbox hb; have n0_ := Aside0.mk (blk_below (g := gb215) (o := .cells #[.int .i64 a0_0, .int .i64 a0_1, .int .i64 a0_2] 63 (0, 0)) (by (with_reducible repeat (first | refine blk_drewN ?_ _ | refine blk_drew ?_ | refine blk_alloc ?_ _)); exact BK215.out) hb); have n1_ := Aside0.mk (below_step (by repeat (first | (with_reducible first | exact HB.out | apply below_alloc | apply pw_below_drewN | apply below_drew1 | refine below_set ?_ GE215.out) | exact HB.out)) hb); have n2_ := Aside0.mk (hbox); have n3_ := Aside0.mk ((by rw [hg]; exact (below_size (by repeat (first | (with_reducible first | exact HB.out | apply below_alloc | apply pw_below_drewN | apply below_drew1 | refine below_set ?_ GE215.out) | exact HB.out))) : w.heap.size ≤ gb216)); have n4_ := Aside0.mk ((by rw [hg]; exact (below_size (by repeat (first | (with_reducible first | exact HB.out | apply below_alloc | apply pw_below_drewN | apply below_drew1 | refine below_set ?_ GE215.out) | exact HB.out))) : w.heap.size ≤ gb216)); have n5_ := Aside0.mk ((by rw [hg]; exact Nat.ne_of_lt (blk_lt (g := gb215) (o := .cells #[.int .i64 a0_0, .int .i64 a0_1, .int .i64 a0_2] 63 (0, 0)) (by (with_reducible repeat (first | refine blk_drewN ?_ _ | refine blk_drew ?_ | refine blk_alloc ?_ _)); exact BK215.out)) : gb215 ≠ gb216)); have n6_ := Aside0.mk ((by rw [hg]; exact Nat.ne_of_gt (blk_lt (g := gb215) (o := .cells #[.int .i64 a0_0, .int .i64 a0_1, .int .i64 a0_2] 63 (0, 0)) (by (with_reducible repeat (first | refine blk_drewN ?_ _ | refine blk_drew ?_ | refine blk_alloc ?_ _)); exact BK215.out)) : gb216 ≠ gb215)); clear BK215; clear HB; have BK215 := n0_; have HB := n1_; have BK216 := n2_; have GW216 := n3_; have GE216 := n4_; have NB215_216 := n5_; have NB216_215 := n6_; clear n0_ n1_ n2_ n3_ n4_ n5_ n6_; clear hb hbox hg; have hnb11 := NB215_216.out; have hnc11 := NB216_215.out; have hcz12_0 : w10.cell? ⟨gb215, 0, none⟩ = some (.int .i64 a0_0) := (blk_cell BK215.out 0).trans rfl; have hcz12_1 : w10.cell? ⟨gb215, 1, none⟩ = some (.int .i64 a0_1) := (blk_cell BK215.out 1).trans rfl; have hcz12_2 : w10.cell? ⟨gb215, 2, none⟩ = some (.int .i64 a0_2) := (blk_cell BK215.out 2).trans rfl; have hfz12_0 := blk_frozen BK215.out 0; have hfz12_1 := blk_frozen BK215.out 1; have hfz12_2 := blk_frozen BK215.out 2; have hcz13_0 : w10.cell? ⟨gb216, 0, none⟩ = some (.int .i64 a1_0) := (blk_cell BK216.out 0).trans rfl; have hcz13_1 : w10.cell? ⟨gb216, 1, none⟩ = some (.int .i64 a1_1) := (blk_cell BK216.out 1).trans rfl; have hcz13_2 : w10.cell? ⟨gb216, 2, none⟩ = some (.int .i64 a1_2) := (blk_cell BK216.out 2).trans rfl; have hfz13_0 := blk_frozen BK216.out 0; have hfz13_1 := blk_frozen BK216.out 1; have hfz13_2 := blk_frozen BK216.out 2))
    go_ret
    exact ⟨by first | rfl | (simp [errW_none, errW_some] <;> rfl) | (simp [*, errW_none, errW_some] <;> rfl), by repeat (first | (with_reducible first | exact HB.out | apply below_alloc | apply pw_below_drewN | apply below_drew1 | refine below_set ?_ GE215.out | refine below_set ?_ GE216.out) | exact HB.out)⟩

end Go.Proofs.Ytianljjmnpdkcaa.M
