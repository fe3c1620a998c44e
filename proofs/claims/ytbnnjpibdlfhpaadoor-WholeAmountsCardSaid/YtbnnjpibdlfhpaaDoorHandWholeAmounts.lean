/-
  WholeAmounts: the law, walked.
-/
import Derived.Test.YtbnnjpibdlfhpaaDoorOOne
namespace Go.Proofs.YtbnnjpibdlfhpaaDoor.Pure
open Go.RowKit Go.Proofs.YtbnnjpibdlfhpaaDoor.M Go.Proofs.YtbnnjpibdlfhpaaDoorW.PrintWords Go.Proofs.YtbnnjpibdlfhpaaDoorW.PrintLast Go.Proofs.YtbnnjpibdlfhpaaDoorW.PrintMore
set_option linter.unusedVariables false
set_option linter.unusedSimpArgs false
theorem txt3 : txt 3 = [48, 46, 48, 51] := by
  unfold txt body pad
  rw [show (3 : Int).natAbs = 3 from rfl, dd_small (by omega)]
  rfl
theorem C_nil (w : World) : Kd.C k39 w none ([] : List S39).length [] := by
  obtain ⟨A, c, e, _, h⟩ := Kd.R_reads (Kd.R_nil k39 39 w 0 (fun _ => True))
  injection e with e1
  rw [e1]; exact h
theorem C_one0 (e c : Int) (w : World) : Kd.C k39 w none (one e c 0).length (one e c 0) := by rw [one_zero]; exact C_nil w
theorem kb_mk {e c : Int} (h0 : 0 ≤ e) (h1 : e ≤ 7) (h2 : 0 ≤ c) (h3 : c ≤ 7) : KB ⟨e, c, 0⟩ := ⟨⟨h0, Int.lt_of_le_of_lt h1 (by decide)⟩, h2, Int.lt_of_le_of_lt h3 (by decide)⟩
theorem kb11 : KB ⟨1, 1, 0⟩ := ⟨⟨by decide, by decide⟩, by decide, by decide⟩
theorem R_C {w : World} {N : Nat} {ok : Nat → Prop} {A : Option Addr} {n c : Nat} {l : List S39} (h : Kd.R k39 39 w N ok (.slice A n c) l) : Kd.C k39 w A l.length l := (Kd.R_reads' h).2.2
theorem sum_at (l : List Int) (i : Nat) (h : i < l.length) : (l.take (i + 1)).sum = (l.take i).sum + l.getD i 0 := sum_next l i h
set_option maxHeartbeats 16000000 in
set_option maxRecDepth 100000 in
theorem WholeAmounts_hand (A0 : Option Addr) (c0 : Nat) (l0 : List Int) (a1 a2 : Int) (w : World) (htab : Lib.TabIs Tryd.prog w "internal/strconv.uint64pow10" .u64 Lib.pow10Tab) (hr : Kd.C (Kd.int .i64) w A0 l0.length l0) (hc : l0.length ≤ c0) (g0 : l0.length * 8 ≤ 140737488351232 ∧ ∀ x ∈ l0, (Lit.int .i64 x).wf = true) (g1 : (Lit.int .i64 a1).wf = true) (g2 : (Lit.int .i64 a2).wf = true) :
    Calls Tryd.prog 3 #[.slice A0 l0.length c0, .int .i64 a1, .int .i64 a2] w fun e w' => e = .returned (.bool true) ∧ Below w.heap.size w w' := by
  have TAB := Aside0.mk (fun (w' : World) (hb : Below w.heap.size w w') => tab_below htab hb)
  have HR := Aside0.mk hr; have HC := Aside0.mk hc; have HIN := Aside0.mk (fun x hx => in64_wf (g0.2 x hx))
  clear hr hc g0 g1 g2 htab
  go_enter Tryd.func3, Tryd.ntmps3
  go_wp2_with (first | ((with_reducible refine gate_dst (N := 7) rfl ?_); refine box_event ?hg (N := 7) ?hd (cs := #[.slice none 0 0]) (t := 25) ?hr ?_; (case hd => rfl); (case hg => rfl); (case hr => first | (go_simp; done) | (go_simp; rfl)); intro g7 hg w7 hbox hb; have B7 := Aside0.mk hb; have K7 := Aside0.mk hbox; have G7 := Aside0.mk (show w.heap.size ≤ g7 from by rw [hg]; exact Nat.le_refl _); have kc0 : w7.cell? ⟨g7, 0, none⟩ = some (.slice none 0 0) := (blk_cell K7.out 0).trans rfl; have kf0 := blk_frozen K7.out 0; clear hb hg hbox) | (go_at_call 4; refine (add_one (w := w7) (s := 0) (am := 3) (e := 1) (cu := 1) (c := 0) (n := 0) (by rw [one_zero]; rfl) (C_one0 1 1 _) kb11 (by unfold In64; omega) (by unfold In64; omega) (by unfold In64; omega)).mono ?_; rintro x w1 ⟨A1, n1, c1, rfl, hn1, hO, hb⟩; have B1 := Aside0.mk (below_step B7.out hb); have K7a := Aside0.mk (blk_below K7.out hb); have O1 := Aside0.mk hO; have N1 := Aside0.mk hn1; clear hb hn1 hO kc0 kf0) | ((with_reducible refine gate_dst (N := 8) rfl ?_); refine box_event ?hg (N := 8) ?hd (cs := #[.slice none 0 0]) (t := 25) ?hr ?_; (case hd => rfl); (case hg => rfl); (case hr => first | (go_simp; done) | (go_simp; rfl)); intro g8 hg w8m hbox hb; have ZB := Aside0.mk hb; have ZX := Aside0.mk hbox; have X8g := Aside0.mk (show w1.heap.size ≤ g8 from by rw [hg]; exact Nat.le_refl _); have ezc0 : w8m.cell? ⟨g8, 0, none⟩ = some (.slice none 0 0) := (blk_cell ZX.out 0).trans rfl; have ezf0 := blk_frozen ZX.out 0; clear hb hg hbox) | ((with_reducible refine gate_dst (N := 29) rfl ?_); have B8 := Aside0.mk (below_setB ZB.out (p := ⟨g8, 0, none⟩) X8g.out (.slice A1 n1 c1)); have X8 := Aside0.mk (blk_put ZX.out 0 (.slice A1 n1 c1) (cs' := #[.slice A1 n1 c1]) rfl); clear ZB ZX ezc0 ezf0; generalize (w8m.setCell ⟨g8, 0, none⟩ (.slice A1 n1 c1)) = w8 at B8 X8 ⊢; have B2 := Aside0.mk (below_step B1.out B8.out); have K7b := Aside0.mk (blk_below K7a.out B8.out); have O8 := Aside0.mk (Kd.R_below O1.out B8.out); have ec0 : w8.cell? ⟨g8, 0, none⟩ = some (.slice A1 n1 c1) := (blk_cell X8.out 0).trans rfl; have ef0 := blk_frozen X8.out 0) | (go_at_call 5; refine (of_one (w := w8) (e := 1) (cu := 1) N1.out (R_C O8.out) kb11).mono ?_; rintro x w2 ⟨rfl, hb⟩; have B3 := Aside0.mk (below_step B2.out hb); have K7c := Aside0.mk (blk_below K7b.out hb); clear hb ec0 ef0))
  refine (text_calls 3 (by decide) (by decide) _ (TAB.out _ B3.out)).mono ?_
  rintro x w3 ⟨rfl, hb⟩
  rw [txt3]
  have B4 := Aside0.mk (below_step B3.out hb); have K7d := Aside0.mk (blk_below K7c.out hb)
  clear hb
  by_cases hu : l0.length > 30
  · have d1 : decide (30 < (l0.length : Int)) = true := decide_eq_true (by omega)
    have d2 : decide (30 < l0.length) = true := decide_eq_true hu
    have d3 : (30 < l0.length) = True := eq_true hu
    clear hu
    go_wp2_with fail
    go_ret
    exact ⟨rfl, B4.out⟩
  have u1 : decide (30 < (l0.length : Int)) = false := decide_eq_false (by omega)
  have u2 : decide (30 < l0.length) = false := decide_eq_false hu
  have u3 : (30 < l0.length) = False := eq_false hu
  have HL := Aside0.mk (show l0.length ≤ 30 by omega)
  clear hu
  by_cases h4 : a1 < 0
  · have d1 : decide (a1 < 0) = true := decide_eq_true h4
    go_wp2_with fail
    go_ret
    exact ⟨rfl, B4.out⟩
  have u14 : decide (a1 < 0) = false := decide_eq_false h4
  by_cases h5 : a1 > 7
  · have d1 : decide (a1 > 7) = true := decide_eq_true h5
    go_wp2_with fail
    go_ret
    exact ⟨rfl, B4.out⟩
  have u15 : decide (a1 > 7) = false := decide_eq_false h5
  by_cases h6 : a2 < 0
  · have d1 : decide (a2 < 0) = true := decide_eq_true h6
    go_wp2_with fail
    go_ret
    exact ⟨rfl, B4.out⟩
  have u16 : decide (a2 < 0) = false := decide_eq_false h6
  by_cases h7 : a2 > 7
  · have d1 : decide (a2 > 7) = true := decide_eq_true h7
    go_wp2_with fail
    go_ret
    exact ⟨rfl, B4.out⟩
  have u17 : decide (a2 > 7) = false := decide_eq_false h7
  have KBA := Aside0.mk (show KB ⟨a1, a2, 0⟩ from kb_mk (by omega) (by omega) (by omega) (by omega))
  clear h4 h5 h6 h7
  go_wp2_with fail
  go_loopg [10, 11, 60] (l0.length + 1) (fun kq v10 v11 v60 w' => ∃ (i : Nat) (s : Int) (A : Option Addr) (n c : Nat), v10 = .int .i64 s ∧ v11 = .bool true ∧ v60 = .int .i64 (i : Int) ∧ Aside0 (i ≤ l0.length ∧ i + kq = l0.length + 1) ∧ Aside0 (s = (l0.take i).sum ∧ In64 s) ∧ Aside0 (n = (one a1 a2 s).length) ∧ Aside0 (w'.heap[g7]? = some (.cells #[.slice A n c] 25 (0, 0))) ∧ Aside0 (Kd.R k39 39 w' w.heap.size (fun k => k ≠ g7) (.slice A n c) (one a1 a2 s)) ∧ Aside0 (Below w.heap.size w w'))
  case atStart => exact ⟨0, 0, none, 0, 0, rfl, rfl, rfl, ⟨by omega, by omega⟩, ⟨rfl, by unfold In64; omega⟩, ⟨by rw [one_zero]; rfl⟩, K7d, ⟨by rw [one_zero]; exact Kd.R_nil _ _ _ _ _⟩, B4⟩
  case round =>
    obtain ⟨i, s, A, n, c, rfl, rfl, rfl, HI, HS, HN, KA, RA, BA⟩ := hrel
    clear K7d B4
    generalize wr = wa at KA RA BA ⊢
    have kc0 : wa.cell? ⟨g7, 0, none⟩ = some (.slice A n c) := (blk_cell KA.out 0).trans rfl
    have kf0 := blk_frozen KA.out 0
    by_cases hi : i < l0.length
    rotate_left
    · have d1 : decide ((i : Int) < (l0.length : Int)) = false := decide_eq_false (by omega)
      have d2 : decide (i < l0.length) = false := decide_eq_false hi
      have d3 : (i < l0.length) = False := eq_false hi
      have SE := Aside0.mk (show l0.sum = s by rw [HS.out.1, List.take_of_length_le (by omega)])
      have HF := Aside0.mk ((sum_f l0 (by have := HL.out; omega) HIN.out).trans (by rw [SE.out, fit_in HS.out.2]))
      clear hi
      go_wp2_with (first | (go_at_call 9; refine (money_Sum.calls (l0.length + 1) A0 c0 l0 s 0 wa (Kd.C_below HR.out BA.out) HC.out HF.out).mono ?_; rintro x w20 ⟨rfl, hb⟩; have B20 := Aside0.mk (below_step BA.out hb); have K20 := Aside0.mk (blk_below KA.out hb); have R20 := Aside0.mk (Kd.R_below RA.out hb); clear hb kc0 kf0; have kc0 : w20.cell? ⟨g7, 0, none⟩ = some (.slice A n c) := (blk_cell K20.out 0).trans rfl; have kf0 := blk_frozen K20.out 0) | (go_at_call 5; refine (of_one (w := w20) HN.out (R_C R20.out) KBA.out).mono ?_; rintro x w21 ⟨rfl, hb⟩; have B21 := Aside0.mk (below_step B20.out hb); have K21 := Aside0.mk (blk_below K20.out hb); have R21 := Aside0.mk (Kd.R_below R20.out hb); clear hb kc0 kf0; have kc0 : w21.cell? ⟨g7, 0, none⟩ = some (.slice A n c) := (blk_cell K21.out 0).trans rfl; have kf0 := blk_frozen K21.out 0))
      have HNF := Aside0.mk (neg_f HS.out.2)
      by_cases hn : In64 (-s)
      · have HNF2 := Aside0.mk (HNF.out.trans (by rw [fit_in hn]))
        refine (money_Neg.calls s (-s) 0 _ HNF2.out).mono ?_
        rintro z w22 ⟨rfl, hd⟩
        have hb := hd.below
        have B22 := Aside0.mk (below_step B21.out hb); have K22 := Aside0.mk (blk_below K21.out hb); have R22 := Aside0.mk (Kd.R_below R21.out hb)
        have kc0 : w22.cell? ⟨g7, 0, none⟩ = some (.slice A n c) := (blk_cell K22.out 0).trans rfl
        have kf0 := blk_frozen K22.out 0
        have HNI := Aside0.mk hn
        clear hb hd hn HNF
        go_wp2_with (first | (go_at_call 4; refine (add_one HN.out (R_C R22.out) KBA.out HS.out.2 HNI.out (by rw [Int.add_right_neg]; unfold In64; omega)).mono ?_; rintro x w23 ⟨A3, n3, c3, rfl, hn3, hO, hb⟩; rw [Int.add_right_neg, one_zero] at hn3 hO; have B23 := Aside0.mk (below_step B22.out hb); have O23 := Aside0.mk hO; have N23 := Aside0.mk hn3; clear hb hn3 hO kc0 kf0) | ((with_reducible refine gate_dst (N := 22) rfl ?_); refine box_event ?hg (N := 22) ?hd (cs := #[.slice none 0 0]) (t := 25) ?hr ?_; (case hd => rfl); (case hg => rfl); (case hr => first | (go_simp; done) | (go_simp; rfl)); intro g22 hg w25m hbox hb; have ZB := Aside0.mk hb; have ZX := Aside0.mk hbox; have X25g := Aside0.mk (show w23.heap.size ≤ g22 from by rw [hg]; exact Nat.le_refl _); have ezc0 : w25m.cell? ⟨g22, 0, none⟩ = some (.slice none 0 0) := (blk_cell ZX.out 0).trans rfl; have ezf0 := blk_frozen ZX.out 0; clear hb hg hbox) | ((with_reducible refine gate_dst (N := 145) rfl ?_); have B25 := Aside0.mk (below_setB ZB.out (p := ⟨g22, 0, none⟩) X25g.out (.slice A3 n3 c3)); have X25 := Aside0.mk (blk_put ZX.out 0 (.slice A3 n3 c3) (cs' := #[.slice A3 n3 c3]) rfl); clear ZB ZX ezc0 ezf0; generalize (w25m.setCell ⟨g22, 0, none⟩ (.slice A3 n3 c3)) = w25 at B25 X25 ⊢; have B25b := Aside0.mk (below_step B23.out B25.out); have O25 := Aside0.mk (Kd.R_below O23.out B25.out); have ec0 : w25.cell? ⟨g22, 0, none⟩ = some (.slice A3 n3 c3) := (blk_cell X25.out 0).trans rfl; have ef0 := blk_frozen X25.out 0) | (go_at_call 11; refine (list_calls (w := w25) N23.out (R_C O25.out) (by decide)).mono ?_; rintro x w26 ⟨v, rfl, hO, hb⟩; obtain ⟨A4, c4, e4⟩ := Kd.R_slice hO; subst e4; have B26 := Aside0.mk (below_step B25b.out hb); clear hb hO ec0 ef0))
        go_ret
        exact ⟨rfl, B26.out⟩
      · have HNF2 := Aside0.mk (HNF.out.trans (by rw [fit_out hn]))
        refine (money_Neg.calls s 0 10 _ HNF2.out).mono ?_
        rintro z w22 ⟨rfl, hd⟩
        have hb := hd.below
        have B22 := Aside0.mk (below_step B21.out hb)
        clear hb hd hn HNF
        go_wp2_with fail
        go_ret
        exact ⟨rfl, B22.out⟩
    have d1 : decide ((i : Int) < (l0.length : Int)) = true := decide_eq_true (by omega)
    have d2 : decide (i < l0.length) = true := decide_eq_true hi
    have d3 : (i < l0.length) = True := eq_true hi
    have hi0 : (0 : Int) ≤ (i : Int) := by omega
    have hi1 : (i : Int) < (l0.length : Int) := by omega
    obtain ⟨ad, ea, x0⟩ := Kd.at_int (Kd.C_below HR.out BA.out) (i : Int) hi0 hi1
    subst ea
    have x1 : wa.cell? (ad.add i) = some (.int .i64 (l0.getD i 0)) := by simpa [rd] using x0
    have q1 := eq_true hi0; have q2 := eq_true hi1; have q3 : decide ((0 : Int) ≤ (i : Int)) = true := decide_eq_true hi0
    have NK := Aside0.mk (show i + 1 ≤ l0.length ∧ i + 1 + (gk - 1) = l0.length + 1 ∧ 0 < gk by have := HI.out; omega)
    have b2_ : wrap64 ((i : Int) + 1) = ((i + 1 : Nat) : Int) := by have := HL.out; unfold wrap64; omega
    have HA := Aside0.mk (show In64 (l0.getD i 0) by rw [List.getD_eq_getElem?_getD, List.getElem?_eq_getElem hi]; exact HIN.out _ (List.getElem_mem hi))
    have HSN := Aside0.mk (sum_at l0 i hi)
    obtain ⟨a, ha⟩ : ∃ a, a = l0.getD i 0 := ⟨_, rfl⟩
    rw [← ha] at x1 HA HSN
    clear hi hi0 hi1 x0 ha
    go_wp2_with fail
    refine (text_calls a HA.out.1 HA.out.2 _ (TAB.out _ BA.out)).mono ?_
    rintro x wb ⟨rfl, hb⟩
    have BB := Aside0.mk (below_step BA.out hb); have KB_ := Aside0.mk (blk_below KA.out hb); have RB := Aside0.mk (Kd.R_below RA.out hb)
    clear hb x1 kc0 kf0
    go_wp2_with fail
    refine (parse_text HA.out _).mono ?_
    rintro x wc ⟨rfl, hb⟩
    have BC := Aside0.mk (below_step BB.out hb); have KC := Aside0.mk (blk_below KB_.out hb); have RC := Aside0.mk (Kd.R_below RB.out hb)
    clear hb
    have kc0 : wc.cell? ⟨g7, 0, none⟩ = some (.slice A n c) := (blk_cell KC.out 0).trans rfl
    have kf0 := blk_frozen KC.out 0
    go_wp2_with fail
    by_cases hf : In64 (s + a)
    · refine (add_one HN.out (R_C RC.out) KBA.out HS.out.2 HA.out hf).mono ?_
      rintro x w1 ⟨A1, n1, c1, rfl, hn1, hO, hb⟩
      have B1 := Aside0.mk (below_step BC.out hb); have K1 := Aside0.mk (blk_below KC.out hb); have N1 := Aside0.mk hn1
      have O1 := Aside0.mk (Kd.R_lower (Kd.R_mono (ok' := fun k => k ≠ g7) (Kd.R_bound hO) (fun k hk => Nat.ne_of_gt (Nat.lt_of_lt_of_le (blk_lt KC.out) hk.2.1))) BC.out.size)
      have HF := Aside0.mk ((add_f HS.out.2 HA.out).trans (by rw [fit_in hf]))
      have HF2 := Aside0.mk hf
      clear hb hn1 hO hf kc0 kf0 KA RA BA KB_ RB BB KC RC BC
      go_wp2_with (first | ((with_reducible refine gate_dst (N := 16) rfl ?_); refine box_event ?hg (N := 16) ?hd (cs := #[.slice none 0 0]) (t := 25) ?hr ?_; (case hd => rfl); (case hg => rfl); (case hr => first | (go_simp; done) | (go_simp; rfl)); intro g16 hg w16m hbox hb; have ZB := Aside0.mk hb; have ZX := Aside0.mk hbox; have X16g := Aside0.mk (show w1.heap.size ≤ g16 from by rw [hg]; exact Nat.le_refl _); have ezc0 : w16m.cell? ⟨g16, 0, none⟩ = some (.slice none 0 0) := (blk_cell ZX.out 0).trans rfl; have ezf0 := blk_frozen ZX.out 0; clear hb hg hbox) | ((with_reducible refine gate_dst (N := 88) rfl ?_); have B16 := Aside0.mk (below_setB ZB.out (p := ⟨g16, 0, none⟩) X16g.out (.slice A1 n1 c1)); have X16 := Aside0.mk (blk_put ZX.out 0 (.slice A1 n1 c1) (cs' := #[.slice A1 n1 c1]) rfl); clear ZB ZX ezc0 ezf0; generalize (w16m.setCell ⟨g16, 0, none⟩ (.slice A1 n1 c1)) = w16 at B16 X16 ⊢; have B16b := Aside0.mk (below_step B1.out B16.out); have K16 := Aside0.mk (blk_below K1.out B16.out); have O16 := Aside0.mk (Kd.R_below O1.out B16.out); have ec0 : w16.cell? ⟨g16, 0, none⟩ = some (.slice A1 n1 c1) := (blk_cell X16.out 0).trans rfl; have ef0 := blk_frozen X16.out 0) | (go_at_call 8; refine (money_Add.calls s a (s + a) 0 _ HF.out).mono ?_; rintro z w17 ⟨rfl, hd⟩; have hb := hd.below; have B17 := Aside0.mk (below_step B16b.out hb); have K17 := Aside0.mk (blk_below K16.out hb); have X17 := Aside0.mk (blk_below X16.out hb); have O17 := Aside0.mk (Kd.R_below O16.out hb); clear hb hd ec0 ef0; have kc0 : w17.cell? ⟨g7, 0, none⟩ = some (.slice A n c) := (blk_cell K17.out 0).trans rfl; have kf0 := blk_frozen K17.out 0; have ec0 : w17.cell? ⟨g16, 0, none⟩ = some (.slice A1 n1 c1) := (blk_cell X17.out 0).trans rfl; have ef0 := blk_frozen X17.out 0))
      go_roundg (gk - 1)
      case measure => have := NK.out.2.2; omega
      case rel => exact ⟨i + 1, s + a, A1, n1, c1, rfl, rfl, by (first | rw [b2_] | rfl), ⟨NK.out.1, NK.out.2.1⟩, ⟨by rw [HSN.out, ← HS.out.1], HF2.out⟩, N1, ⟨blk_put K17.out 0 _ rfl⟩, ⟨Kd.R_far O17.out (fun k hk => hk) _⟩, ⟨below_setB B17.out G7.out _⟩⟩
    · refine (add_one_err HN.out (R_C RC.out) KBA.out HS.out.2 HA.out hf).mono ?_
      rintro x w1 ⟨rfl, hb⟩
      have B1 := Aside0.mk (below_step BC.out hb); have K1 := Aside0.mk (blk_below KC.out hb); have O1 := Aside0.mk (Kd.R_below RC.out hb)
      have HF := Aside0.mk ((add_f HS.out.2 HA.out).trans (by rw [fit_out hf]))
      clear hb hf kc0 kf0 KA RA BA KB_ RB BB KC RC BC
      go_wp2_with (first | ((with_reducible refine gate_dst (N := 16) rfl ?_); refine box_event ?hg (N := 16) ?hd (cs := #[.slice none 0 0]) (t := 25) ?hr ?_; (case hd => rfl); (case hg => rfl); (case hr => first | (go_simp; done) | (go_simp; rfl)); intro g16 hg w16m hbox hb; have ZB := Aside0.mk hb; have ZX := Aside0.mk hbox; have X16g := Aside0.mk (show w1.heap.size ≤ g16 from by rw [hg]; exact Nat.le_refl _); have ezc0 : w16m.cell? ⟨g16, 0, none⟩ = some (.slice none 0 0) := (blk_cell ZX.out 0).trans rfl; have ezf0 := blk_frozen ZX.out 0; clear hb hg hbox) | ((with_reducible refine gate_dst (N := 88) rfl ?_); have B16 := Aside0.mk (below_setB ZB.out (p := ⟨g16, 0, none⟩) X16g.out (.slice A n c)); have X16 := Aside0.mk (blk_put ZX.out 0 (.slice A n c) (cs' := #[.slice A n c]) rfl); clear ZB ZX ezc0 ezf0; generalize (w16m.setCell ⟨g16, 0, none⟩ (.slice A n c)) = w16 at B16 X16 ⊢; have B16b := Aside0.mk (below_step B1.out B16.out); have K16 := Aside0.mk (blk_below K1.out B16.out); have O16 := Aside0.mk (Kd.R_below O1.out B16.out); have ec0 : w16.cell? ⟨g16, 0, none⟩ = some (.slice A n c) := (blk_cell X16.out 0).trans rfl; have ef0 := blk_frozen X16.out 0) | (go_at_call 8; refine (money_Add.calls s a 0 10 _ HF.out).mono ?_; rintro z w17 ⟨rfl, hd⟩; have hb := hd.below; have B17 := Aside0.mk (below_step B16b.out hb); have K17 := Aside0.mk (blk_below K16.out hb); have X17 := Aside0.mk (blk_below X16.out hb); have O17 := Aside0.mk (Kd.R_below O16.out hb); clear hb hd ec0 ef0; have kc0 : w17.cell? ⟨g7, 0, none⟩ = some (.slice A n c) := (blk_cell K17.out 0).trans rfl; have kf0 := blk_frozen K17.out 0; have ec0 : w17.cell? ⟨g16, 0, none⟩ = some (.slice A n c) := (blk_cell X17.out 0).trans rfl; have ef0 := blk_frozen X17.out 0) | (go_at_call 5; refine (of_one (w := w17) HN.out (R_C O17.out) KBA.out).mono ?_; rintro x w18 ⟨rfl, hb⟩; have B18 := Aside0.mk (below_step B17.out hb); have K18 := Aside0.mk (blk_below K17.out hb); have O18 := Aside0.mk (Kd.R_below O17.out hb); clear hb kc0 kf0; have kc0 : w18.cell? ⟨g7, 0, none⟩ = some (.slice A n c) := (blk_cell K18.out 0).trans rfl; have kf0 := blk_frozen K18.out 0))
      go_ret
      exact ⟨rfl, B18.out⟩
end Go.Proofs.YtbnnjpibdlfhpaaDoor.Pure
