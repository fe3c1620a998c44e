/-
  link.New and Next, told shortly; what is left when something is said or heard; the small head (speaks).
-/
import Derived.Test.YthgdojaildccaaaOLink4
namespace Go.Proofs.Ythgdojaildccaaa.M
open Go.RowKit Go.Proofs.YthgdojaildccaaaW.PrintWords Go.Proofs.YthgdojaildccaaaW.PrintLast Go.Proofs.YthgdojaildccaaaW.PrintMore
set_option linter.unusedVariables false
set_option linter.unusedSimpArgs false
theorem rd64_same {l : List S64} {t : Nat} (h : t < l.length) (x : S64) : rd_T64 (l.set t x) (t : Int) = x := by simp [rd_T64, h]
theorem rd64_ne {l : List S64} {t i : Nat} (h : t ≠ i) (x : S64) : rd_T64 (l.set t x) (i : Int) = rd_T64 l (i : Int) := by
  simp [rd_T64, List.getElem?_set_ne h]
theorem say_len (l : List S64) (t : Nat) (m : S35) : (sayL l t m).length = l.length := by simp [sayL]
theorem hear_len (l : List S64) (t : Nat) : (hearL l t).length = l.length := by simp [hearL]
theorem say_same {l : List S64} {t : Nat} (h : t < l.length) (m : S35) : rd_T64 (sayL l t m) (t : Int) = ⟨(rd_T64 l (t : Int)).f0 ++ [m], (rd_T64 l (t : Int)).f1⟩ := rd64_same h _
theorem hear_same {l : List S64} {t : Nat} (h : t < l.length) : rd_T64 (hearL l t) (t : Int) = ⟨(rd_T64 l (t : Int)).f0, (rd_T64 l (t : Int)).f1 + 1⟩ := rd64_same h _
theorem rd64_repl {n i : Nat} (h : i < n) : rd_T64 (List.replicate n z64) (i : Int) = z64 := by simp [rd_T64, h]
theorem fit_repl {n : Nat} (h : n ≤ 9) : FitL (List.replicate n z64) := ⟨by simpa using h, fun x hx => by rw [List.eq_of_mem_replicate hx]; simp [z64]⟩
theorem fit_say {l : List S64} {t : Nat} {m : S35} (h : FitL l) (ht : t < l.length) (hs : (rd_T64 l (t : Int)).f0.length < 4096) : FitL (sayL l t m) := by
  refine ⟨by rw [say_len]; exact h.1, fun x hx => ?_⟩
  unfold sayL at hx
  rcases List.mem_or_eq_of_mem_set hx with hx | rfl
  · exact h.2 x hx
  · have := h.2 _ (rd_mem64 ht)
    exact ⟨by simp only [List.length_append, List.length_singleton]; omega, this.2⟩
theorem fit_hear {l : List S64} {t : Nat} (h : FitL l) (ht : t < l.length) (hs : (rd_T64 l (t : Int)).f1 < 1000000) : FitL (hearL l t) := by
  refine ⟨by rw [hear_len]; exact h.1, fun x hx => ?_⟩
  unfold hearL at hx
  rcases List.mem_or_eq_of_mem_set hx with hx | rfl
  · exact h.2 x hx
  · have := h.2 _ (rd_mem64 ht)
    refine ⟨this.1, ?_, ?_⟩
    · show 0 ≤ (rd_T64 l (t : Int)).f1 + 1; omega
    · show (rd_T64 l (t : Int)).f1 + 1 ≤ 1000000; omega
theorem links_New {me nodes : Nat} (h : me < nodes) (h9 : nodes ≤ 9) (w : World) :
    Calls Try.prog 19 #[.int .i64 (me : Int), .int .i64 (nodes : Int)] w fun x w' => ∃ A c, x = .returned (.tuple #[.agg #[.int .i64 (me : Int), .slice A nodes c], .int .i64 0]) ∧ Kd.R k64 64 w' w.heap.size (fun _ => True) (.slice A nodes c) (List.replicate nodes z64) ∧ Below w.heap.size w w' := by
  have hf : link_New.f (me : Int) (nodes : Int) = some ((me : Int), List.replicate nodes z64, 0) := by
    unfold link_New.f
    rw [if_neg (by omega), if_neg (by omega), if_neg (by omega), if_neg (by omega), if_pos (by omega), if_pos (by omega), Int.toNat_natCast]
  refine (link_New.calls _ _ _ _ _ w hf).mono ?_
  rintro x w' ⟨v, rfl, hR, hb⟩
  obtain ⟨A, c, e⟩ := Kd.R_slice hR
  rw [List.length_replicate] at e
  subst e
  exact ⟨A, c, rfl, hR, hb⟩
theorem links_New_bad {me nodes : Int} (h : nodes < 1 ∨ nodes > 9 ∨ me < 0 ∨ me ≥ nodes) (w : World) :
    Calls Try.prog 19 #[.int .i64 me, .int .i64 nodes] w fun x w' => ∃ A c, x = .returned (.tuple #[.agg #[.int .i64 0, .slice A 0 c], .int .i64 1]) ∧ Below w.heap.size w w' := by
  have hf : link_New.f me nodes = some (0, [], 1) := by
    unfold link_New.f
    by_cases h1 : nodes < 1
    · rw [if_pos h1]
    by_cases h2 : nodes > 9
    · rw [if_neg h1, if_pos h2]
    by_cases h3 : me < 0
    · rw [if_neg h1, if_neg h2, if_pos h3]
    · rw [if_neg h1, if_neg h2, if_neg h3, if_pos (by omega)]
  refine (link_New.calls _ _ _ _ _ w hf).mono ?_
  rintro x w' ⟨v, rfl, hR, hb⟩
  obtain ⟨A, c, rfl, hl, hC⟩ := Kd.R_reads hR
  exact ⟨A, c, rfl, hb⟩
theorem links_Next {t : Nat} {num me : Int} {A : Option Addr} {n c : Nat} {l : List S64} {w : World} (hn : n = l.length) (hC : Kd.C k64 w A l.length l) (hc : l.length ≤ c) (ht : t < l.length) (hne : (t : Int) ≠ me) (h1 : 1 ≤ num) (h2 : num ≤ 9223372036854775807) :
    Calls Try.prog 22 #[.agg #[.int .i64 me, .slice A n c], .int .i64 (t : Int), .int .i64 num] w fun x w' => x = .returned (.tuple #[.bool (num - 1 == (rd_T64 l (t : Int)).f1), .bool (decide (num ≤ (rd_T64 l (t : Int)).f1))]) ∧ Below w.heap.size w w' := by
  subst hn
  refine link_Links_Next.calls _ _ _ _ _ _ _ _ w hC hc ?_
  have hw : wrap64 (num - 1) = num - 1 := by unfold wrap64; omega
  unfold link_Links_Next.f
  rw [other_yes ht hne]
  simp only [Option.bind_some, if_true]
  rw [if_neg (by omega), if_pos (by omega), if_pos (by omega), hw]
theorem links_Next_low {t : Nat} {num me : Int} {A : Option Addr} {n c : Nat} {l : List S64} {w : World} (hn : n = l.length) (hC : Kd.C k64 w A l.length l) (hc : l.length ≤ c) (ht : t < l.length) (hne : (t : Int) ≠ me) (h1 : num < 1) :
    Calls Try.prog 22 #[.agg #[.int .i64 me, .slice A n c], .int .i64 (t : Int), .int .i64 num] w fun x w' => x = .returned (.tuple #[.bool false, .bool false]) ∧ Below w.heap.size w w' := by
  subst hn
  refine link_Links_Next.calls _ _ _ _ _ _ _ _ w hC hc ?_
  unfold link_Links_Next.f
  rw [other_yes ht hne]
  simp only [Option.bind_some, if_true]
  rw [if_pos h1]
theorem links_Next_bad {to_ num me : Int} {A : Option Addr} {n c : Nat} {l : List S64} {w : World} (hn : n = l.length) (hC : Kd.C k64 w A l.length l) (hc : l.length ≤ c) (h : ¬(0 ≤ to_ ∧ to_ < l.length ∧ to_ ≠ me)) :
    Calls Try.prog 22 #[.agg #[.int .i64 me, .slice A n c], .int .i64 to_, .int .i64 num] w fun x w' => x = .returned (.tuple #[.bool false, .bool false]) ∧ Below w.heap.size w w' := by
  subst hn
  refine link_Links_Next.calls _ _ _ _ _ _ _ _ w hC hc ?_
  unfold link_Links_Next.f
  rw [other_no h]
  simp
def m7 : S35 := ⟨7, ⟨0, 0⟩, 0, 0, 0, 0, 0, false, [], []⟩
theorem two_say : sayL (List.replicate 2 z64) 1 m7 = [z64, ⟨[m7], 0⟩] := rfl
theorem fit_nil : FitM m7 := ⟨by simp [m7], by simp [m7]⟩
theorem pack7 : packL (0 : Int) ((1 : Nat) : Int) ⟨[m7], 0⟩ 0 = [⟨0, 1, 1, 0, m7⟩] := rfl
theorem two_hear : hearL (List.replicate 2 z64) 0 = [⟨[], 1⟩, z64] := rfl
set_option maxHeartbeats 8000000 in
set_option maxRecDepth 100000 in
theorem speaks_calls (w : World) : Calls Try.prog 18 #[] w fun e w' => e = .returned (.bool true) ∧ Below w.heap.size w w' := by
  go_enter Try.func18, Try.ntmps18
  go_wp2_with fail
  refine (links_New (me := 0) (nodes := 2) (by decide) (by decide) w).mono ?_; rintro x w1 ⟨A1, c1, rfl, hR, hb⟩
  have B1 := Aside0.mk hb; have R1 := Aside0.mk (Kd.R_bound hR)
  clear hb hR
  dsimp only
  go_wp2_with (first | ((with_reducible refine gate_dst (N := 1) rfl ?_); refine box_event ?hg (N := 1) ?hd (cs := #[.int .i64 0, .slice none 0 0]) (t := 55) ?hr ?_; (case hd => rfl); (case hg => rfl); (case hr => first | (go_simp; done) | (go_simp; rfl)); intro g1 hg w2m hbox hb; have ZB := Aside0.mk hb; have ZX := Aside0.mk hbox; have X2g := Aside0.mk (show w1.heap.size ≤ g1 from by rw [hg]; exact Nat.le_refl _); have x_zc0 : w2m.cell? ⟨g1, 0, none⟩ = some (.int .i64 0) := (blk_cell ZX.out 0).trans rfl; have x_zf0 := blk_frozen ZX.out 0; have x_zc1 : w2m.cell? ⟨g1, 1, none⟩ = some (.slice none 0 0) := (blk_cell ZX.out 1).trans rfl; have x_zf1 := blk_frozen ZX.out 1; clear hb hg hbox) | ((with_reducible refine gate_dst (N := 17) rfl ?_); have NB2 := Aside0.mk (below_setB (below_setB ZB.out (p := ⟨g1, 0, none⟩) X2g.out (.int .i64 0)) (p := ⟨g1, 1, none⟩) X2g.out (.slice A1 2 c1)); have X2 := Aside0.mk (blk_put (blk_put ZX.out 0 (.int .i64 0) (cs' := #[.int .i64 0, .slice none 0 0]) rfl) 1 (.slice A1 2 c1) (cs' := #[.int .i64 0, .slice A1 2 c1]) rfl); clear ZB ZX x_zc0 x_zf0 x_zc1 x_zf1; generalize ((w2m.setCell ⟨g1, 0, none⟩ (.int .i64 0)).setCell ⟨g1, 1, none⟩ (.slice A1 2 c1)) = w2 at NB2 X2 ⊢; have B2 := Aside0.mk (below_step B1.out NB2.out); have R2 := Aside0.mk (Kd.R_mono (ok' := fun k => k ≠ g1) (Kd.R_below R1.out NB2.out) (fun k hk e => by subst e; exact absurd hk.2.2.1 (Nat.not_lt.mpr X2g.out))); have x_c0 : w2.cell? ⟨g1, 0, none⟩ = some (.int .i64 0) := (blk_cell X2.out 0).trans rfl; have x_f0 := blk_frozen X2.out 0; have x_c1 : w2.cell? ⟨g1, 1, none⟩ = some (.slice A1 2 c1) := (blk_cell X2.out 1).trans rfl; have x_f1 := blk_frozen X2.out 1))
  have G1 := Aside0.mk (show w.heap.size ≤ g1 from Nat.le_trans B1.out.size X2g.out)
  refine (links_Say (t := 1) (m := m7) (l := List.replicate 2 z64) (A8 := none) (C8 := 0) (A9 := none) (C9 := 0) rfl (Nat.le_of_lt (Nat.lt_of_le_of_lt G1.out (blk_lt X2.out))) R2.out (fit_repl (by decide)) (by decide) (by decide) (by decide) (Kd.C_nil _ _) (Kd.C_nil _ _) fit_nil).mono ?_
  rintro x w3 ⟨A3, c3, rfl, hR, hb⟩
  rw [two_say] at hR
  have B3 := Aside0.mk (below_step B2.out hb); have X3 := Aside0.mk (blk_below X2.out hb)
  have R3 := Aside0.mk (Kd.R_mono (ok' := fun k => k ≠ g1) hR (fun k hk e => by subst e; rcases hk with ⟨h, _⟩ | h; (exact h rfl); (exact absurd (blk_lt X2.out) (Nat.not_lt.mpr h))))
  clear hb hR R1 R2 X2 NB2 B2 x_c0 x_f0 x_c1 x_f1
  dsimp only [List.length_replicate]
  have x_c0 : w3.cell? ⟨g1, 0, none⟩ = some (.int .i64 0) := (blk_cell X3.out 0).trans rfl; have x_f0 := blk_frozen X3.out 0; have x_c1 : w3.cell? ⟨g1, 1, none⟩ = some (.slice A1 2 c1) := (blk_cell X3.out 1).trans rfl; have x_f1 := blk_frozen X3.out 1
  go_wp2_with (first | ((with_reducible refine gate_dst (N := 22) rfl ?_); have B4_ := Aside0.mk (below_setB (below_setB B3.out (p := ⟨g1, 0, none⟩) G1.out (.int .i64 0)) (p := ⟨g1, 1, none⟩) G1.out (.slice A3 2 c3)); have X4_ := Aside0.mk (blk_put (blk_put X3.out 0 (.int .i64 0) (cs' := #[.int .i64 0, .slice A1 2 c1]) rfl) 1 (.slice A3 2 c3) (cs' := #[.int .i64 0, .slice A3 2 c3]) rfl); have R4 := Aside0.mk (Kd.R_kept R3.out (((Kept.refl w3 (fun k => k = g1)).setCell (p := ⟨g1, 0, none⟩) (.inl rfl) (.int .i64 0)).setCell (p := ⟨g1, 1, none⟩) (.inl rfl) (.slice A3 2 c3)) (fun k hk e => hk e)); clear B3 X3 R3 x_c0 x_f0 x_c1 x_f1; generalize ((w3.setCell ⟨g1, 0, none⟩ (.int .i64 0)).setCell ⟨g1, 1, none⟩ (.slice A3 2 c3)) = w4 at B4_ X4_ R4 ⊢; have B4x := Aside0.mk B4_.out; have X4x := Aside0.mk X4_.out; clear B4_ X4_; have x_c0 : w4.cell? ⟨g1, 0, none⟩ = some (.int .i64 0) := (blk_cell X4x.out 0).trans rfl; have x_f0 := blk_frozen X4x.out 0; have x_c1 : w4.cell? ⟨g1, 1, none⟩ = some (.slice A3 2 c3) := (blk_cell X4x.out 1).trans rfl; have x_f1 := blk_frozen X4x.out 1))
  obtain ⟨-, hcap4, hC4⟩ := Kd.R_reads' R4.out
  refine (links_Packets (t := 1) (k := 0) (l := [z64, ⟨[m7], 0⟩]) rfl hC4 hcap4 ⟨by decide, fun x hx => by rcases List.mem_cons.1 hx with rfl | hx; (exact ⟨by decide, by decide, by decide⟩); (rw [List.mem_singleton.1 hx]; exact ⟨by show 1 ≤ 4096; decide, Int.le_refl 0, by show (0 : Int) ≤ 1000000; decide⟩)⟩ (by decide) (by decide) rfl (fun m hm => by have h : m = m7 := List.mem_singleton.1 hm; rw [h]; exact fit_nil)).mono ?_
  rintro x w5 ⟨v5, rfl, hP, hb⟩
  rw [show rd_T64 [z64, ⟨[m7], 0⟩] ((1 : Nat) : Int) = ⟨[m7], 0⟩ from rfl, pack7] at hP
  obtain ⟨ad5, c5, e5⟩ := Kd.R_slice1 hP (by decide)
  subst e5
  have B5 := Aside0.mk (below_step B4x.out hb); have P5 := Aside0.mk (Kd.R_bound hP)
  clear hb hP hcap4 hC4 B4x X4x R4 x_c0 x_f0 x_c1 x_f1
  dsimp only
  go_wp2_with fail
  refine (links_New (me := 1) (nodes := 2) (by decide) (by decide) w5).mono ?_; rintro x w6 ⟨A6, c6, rfl, hR, hb⟩
  have S56 := Aside0.mk hb.size; have B6 := Aside0.mk (below_step B5.out hb); have R6 := Aside0.mk (Kd.R_bound (Kd.R_lower hR B5.out.size)); have P6 := Aside0.mk (Kd.R_below P5.out hb)
  clear hb hR B5 P5
  dsimp only
  go_wp2_with (first | ((with_reducible refine gate_dst (N := 5) rfl ?_); refine box_event ?hg (N := 5) ?hd (cs := #[.int .i64 0, .slice none 0 0]) (t := 55) ?hr ?_; (case hd => rfl); (case hg => rfl); (case hr => first | (go_simp; done) | (go_simp; rfl)); intro g5 hg w7m hbox hb; have ZB := Aside0.mk hb; have ZX := Aside0.mk hbox; have X7g := Aside0.mk (show w6.heap.size ≤ g5 from by rw [hg]; exact Nat.le_refl _); have x_zc0 : w7m.cell? ⟨g5, 0, none⟩ = some (.int .i64 0) := (blk_cell ZX.out 0).trans rfl; have x_zf0 := blk_frozen ZX.out 0; have x_zc1 : w7m.cell? ⟨g5, 1, none⟩ = some (.slice none 0 0) := (blk_cell ZX.out 1).trans rfl; have x_zf1 := blk_frozen ZX.out 1; clear hb hg hbox) | ((with_reducible refine gate_dst (N := 29) rfl ?_); have NB7 := Aside0.mk (below_setB (below_setB ZB.out (p := ⟨g5, 0, none⟩) X7g.out (.int .i64 1)) (p := ⟨g5, 1, none⟩) X7g.out (.slice A6 2 c6)); have X7 := Aside0.mk (blk_put (blk_put ZX.out 0 (.int .i64 1) (cs' := #[.int .i64 1, .slice none 0 0]) rfl) 1 (.slice A6 2 c6) (cs' := #[.int .i64 1, .slice A6 2 c6]) rfl); clear ZB ZX x_zc0 x_zf0 x_zc1 x_zf1; generalize ((w7m.setCell ⟨g5, 0, none⟩ (.int .i64 1)).setCell ⟨g5, 1, none⟩ (.slice A6 2 c6)) = w7 at NB7 X7 ⊢; have B7 := Aside0.mk (below_step B6.out NB7.out); have R7 := Aside0.mk (Kd.R_mono (ok' := fun k => k ≠ g5) (Kd.R_below R6.out NB7.out) (fun k hk e => by subst e; exact absurd hk.2.2.1 (Nat.not_lt.mpr X7g.out))); have P7 := Aside0.mk (Kd.R_mono (ok' := fun k => k ≠ g5) (Kd.R_below P6.out NB7.out) (fun k hk e => by subst e; have := hk.2.2.1; have := X7g.out; have := S56.out; omega)); have x_c0 : w7.cell? ⟨g5, 0, none⟩ = some (.int .i64 1) := (blk_cell X7.out 0).trans rfl; have x_f0 := blk_frozen X7.out 0; have x_c1 : w7.cell? ⟨g5, 1, none⟩ = some (.slice A6 2 c6) := (blk_cell X7.out 1).trans rfl; have x_f1 := blk_frozen X7.out 1))
  have G5 := Aside0.mk (show w.heap.size ≤ g5 ∧ w6.heap.size ≤ g5 from ⟨Nat.le_trans B6.out.size X7g.out, X7g.out⟩)
  obtain ⟨-, hcap7, hC7⟩ := Kd.R_reads' R7.out
  refine (links_Next (t := 0) (num := 1) (l := List.replicate 2 z64) rfl hC7 hcap7 (by decide) (by decide) (by decide) (by decide)).mono ?_
  rintro x w8 ⟨rfl, hb⟩
  rw [show ((1 : Int) - 1 == (rd_T64 (List.replicate 2 z64) ((0 : Nat) : Int)).f1) = true from rfl, show decide ((1 : Int) ≤ (rd_T64 (List.replicate 2 z64) ((0 : Nat) : Int)).f1) = false from rfl]
  have B8 := Aside0.mk (below_step B7.out hb); have R8 := Aside0.mk (Kd.R_below R7.out hb); have P8 := Aside0.mk (Kd.R_below P7.out hb); have X8 := Aside0.mk (blk_below X7.out hb)
  clear hb hC7 hcap7 NB7 B6 R6 P6 B7 R7 P7 X7 x_c0 x_f0 x_c1 x_f1
  have x_c0 : w8.cell? ⟨g5, 0, none⟩ = some (.int .i64 1) := (blk_cell X8.out 0).trans rfl; have x_f0 := blk_frozen X8.out 0; have x_c1 : w8.cell? ⟨g5, 1, none⟩ = some (.slice A6 2 c6) := (blk_cell X8.out 1).trans rfl; have x_f1 := blk_frozen X8.out 1
  go_wp2_with fail
  refine (links_Hear (t := 0) (l := List.replicate 2 z64) rfl B8.out.size R8.out (fit_repl (by decide)) (by decide) (by decide)).mono ?_
  rintro x w9 ⟨A9, c9, rfl, hR, hb⟩
  rw [two_hear] at hR
  have B9 := Aside0.mk (below_step B8.out hb); have X9 := Aside0.mk (blk_below X8.out hb); have P9 := Aside0.mk (Kd.R_below P8.out hb)
  have R9 := Aside0.mk (Kd.R_mono (ok' := fun k => k ≠ g5) hR (fun k hk e => by subst e; rcases hk with ⟨h, _⟩ | h; (exact h rfl); (exact absurd (blk_lt X8.out) (Nat.not_lt.mpr h))))
  clear hb hR B8 X8 P8 R8 x_c0 x_f0 x_c1 x_f1
  dsimp only [List.length_replicate]
  have x_c0 : w9.cell? ⟨g5, 0, none⟩ = some (.int .i64 1) := (blk_cell X9.out 0).trans rfl; have x_f0 := blk_frozen X9.out 0; have x_c1 : w9.cell? ⟨g5, 1, none⟩ = some (.slice A6 2 c6) := (blk_cell X9.out 1).trans rfl; have x_f1 := blk_frozen X9.out 1
  go_wp2_with (first | ((with_reducible refine gate_dst (N := 39) rfl ?_); have B10_ := Aside0.mk (below_setB (below_setB B9.out (p := ⟨g5, 0, none⟩) G5.out.1 (.int .i64 1)) (p := ⟨g5, 1, none⟩) G5.out.1 (.slice A9 2 c9)); have X10_ := Aside0.mk (blk_put (blk_put X9.out 0 (.int .i64 1) (cs' := #[.int .i64 1, .slice A6 2 c6]) rfl) 1 (.slice A9 2 c9) (cs' := #[.int .i64 1, .slice A9 2 c9]) rfl); have R10 := Aside0.mk (Kd.R_kept R9.out (((Kept.refl w9 (fun k => k = g5)).setCell (p := ⟨g5, 0, none⟩) (.inl rfl) (.int .i64 1)).setCell (p := ⟨g5, 1, none⟩) (.inl rfl) (.slice A9 2 c9)) (fun k hk e => hk e)); have P10 := Aside0.mk (Kd.R_kept P9.out (((Kept.refl w9 (fun k => k = g5)).setCell (p := ⟨g5, 0, none⟩) (.inl rfl) (.int .i64 1)).setCell (p := ⟨g5, 1, none⟩) (.inl rfl) (.slice A9 2 c9)) (fun k hk e => hk e)); clear B9 X9 R9 P9 x_c0 x_f0 x_c1 x_f1; generalize ((w9.setCell ⟨g5, 0, none⟩ (.int .i64 1)).setCell ⟨g5, 1, none⟩ (.slice A9 2 c9)) = w10 at B10_ X10_ R10 P10 ⊢; have B10x := Aside0.mk B10_.out; have X10x := Aside0.mk X10_.out; clear B10_ X10_; have x_c0 : w10.cell? ⟨g5, 0, none⟩ = some (.int .i64 1) := (blk_cell X10x.out 0).trans rfl; have x_f0 := blk_frozen X10x.out 0; have x_c1 : w10.cell? ⟨g5, 1, none⟩ = some (.slice A9 2 c9) := (blk_cell X10x.out 1).trans rfl; have x_f1 := blk_frozen X10x.out 1))
  obtain ⟨-, hcapA, hCA⟩ := Kd.R_reads' R10.out
  refine (links_Next (t := 0) (num := 1) (l := [⟨[], 1⟩, z64]) rfl hCA hcapA (by decide) (by decide) (by decide) (by decide)).mono ?_
  rintro x w11 ⟨rfl, hb⟩
  rw [show ((1 : Int) - 1 == (rd_T64 [⟨[], 1⟩, z64] ((0 : Nat) : Int)).f1) = false from rfl, show decide ((1 : Int) ≤ (rd_T64 [⟨[], 1⟩, z64] ((0 : Nat) : Int)).f1) = true from rfl]
  have B11 := Aside0.mk (below_step B10x.out hb)
  obtain ⟨ad, A13, C13, A14, C14, ea, x0, x1, x2, x3, x4, x5, x6, x7, x8, x9, x10, x11, x12, x13, x14, l13, g13, l14, g14⟩ := at_T37 (Kd.C_below (Kd.R_reads' P10.out).2.2 hb) (0 : Int) (by decide) (by decide)
  injection ea with ea
  subst ea
  rw [show rd_T37 [⟨0, 1, 1, 0, m7⟩] (0 : Int) = ⟨0, 1, 1, 0, m7⟩ from rfl] at x2 x4
  clear hb hCA hcapA x0 x1 x3 x5 x6 x7 x8 x9 x10 x11 x12 x13 x14 l13 g13 l14 g14
  dsimp only [m7] at x4 x2
  rw [show ad5.add ((0 : Int).toNat * 15) = ad5 by simp [Addr.add]] at x2 x4
  go_wp2_with fail
  go_ret
  exact ⟨rfl, B11.out⟩
end Go.Proofs.Ythgdojaildccaaa.M
