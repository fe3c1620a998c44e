/-
  slices.Clone of peers and of messages; a message of its own (link.copied).
-/
import Derived.Test.YthgdojaildccaaaONet
namespace Go.Proofs.Ythgdojaildccaaa.M
open Go.RowKit Go.Proofs.YthgdojaildccaaaW.PrintWords Go.Proofs.YthgdojaildccaaaW.PrintLast Go.Proofs.YthgdojaildccaaaW.PrintMore
set_option linter.unusedVariables false
set_option linter.unusedSimpArgs false
theorem info64_ : (Try.prog.info? 64).map (fun i => (i.zero, i.size, i.bytes)) = some (some (.agg #[.slice none 0 0, .int .i64 0]), 2, 32) := by kernel_rfl
theorem info35_ : (Try.prog.info? 35).map (fun i => (i.zero, i.size, i.bytes)) = some (some (.agg #[.int .i64 0, .int .i64 0, .int .i64 0, .int .i64 0, .int .i64 0, .int .i64 0, .int .i64 0, .int .i64 0, .bool false, .slice none 0 0, .slice none 0 0]), 11, 120) := by kernel_rfl
theorem nil52 (W : World) (A : Option Addr) (n c : Nat) : (binOp .eql 52 (.slice A n c) (.slice none 0 0)).run Try.prog W = .ok (.bool A.isNone) W := Go.Lib.run_eql_slice_nil W 52 35 A n c 0 0 Try.underlying52
theorem nil53 (W : World) (A : Option Addr) (n c : Nat) : (binOp .eql 53 (.slice A n c) (.slice none 0 0)).run Try.prog W = .ok (.bool A.isNone) W := Go.Lib.run_eql_slice_nil W 53 64 A n c 0 0 Try.underlying53
attribute [local go_sem] nil52 nil53
/-- what was there and what is new -/
def OKN (ok : Nat → Prop) (w : World) (k : Nat) : Prop := (ok k ∧ k < w.heap.size) ∨ w.heap.size ≤ k
theorem below_grown {w W W1 : World} {row : Option Nat} (h : Below w.heap.size w W) (hg : W.grownBy W1 row) (hr : ∀ k, row = some k → w.heap.size ≤ k) : Below w.heap.size w W1 :=
  h.trans ⟨hg.os, hg.tape, hg.output, hg.size, fun k hk => hg.block k (Nat.lt_of_lt_of_le hk h.size) (fun e => by have := hr k e.symm; omega)⟩
theorem row_none {α : Type} {R : α → List Value → Prop} {sz : Nat} {w : World} {l : List α} (h : ReadsRow R sz w none l.length l) : l = [] := by
  obtain ⟨_, _, h3⟩ := h
  by_cases h0 : 0 < l.length
  · obtain ⟨a, e, _⟩ := h3 h0; cases e
  · exact List.eq_nil_of_length_eq_zero (by omega)
set_option maxHeartbeats 4000000 in
set_option maxRecDepth 100000 in
theorem clone64_calls {A : Option Addr} {n c N : Nat} {l : List S64} {ok : Nat → Prop} {w : World} (hn : n = l.length) (hN : N ≤ w.heap.size) (hC : ReadsRow (k64.M w N (fun k => ok k ∧ k < w.heap.size)) 2 w A l.length l) (hl : l.length * 32 ≤ 140737488355328) :
    Calls Try.prog 32 #[.slice A n c] w fun x w' => ∃ v, x = .returned v ∧ Kd.R k64 64 w' N (OKN ok w) v l ∧ (∀ k, v.ownBlock = some k → w.heap.size ≤ k) ∧ Below w.heap.size w w' := by
  subst hn
  have B0 := Aside0.mk (Below.refl w.heap.size w)
  have HC := Aside0.mk hC; have HL := Aside0.mk hl; have HN := Aside0.mk hN
  rcases A with _ | A
  · obtain rfl := row_none hC
    clear hC hl hN
    go_enter Try.func32, Try.ntmps32
    go_wp2_with fail
    go_ret
    exact ⟨_, rfl, Kd.R_nil _ _ _ _ _, by simp [Value.ownBlock], B0.out⟩
  clear hC hl hN
  go_enter Try.func32, Try.ntmps32
  go_wp2_with (first | ((with_reducible refine gate_dst (N := 5) rfl ?_); refine Kd.R_lit k64 _ 64 ?hg (N := 5) ?hd (xs := ([] : List S64)) (inner := []) (ok := fun _ => True) (okp := fun _ => True) ?hr ?hp (fun _ hk => hk) trivial (Below.refl _ _) (Nat.le_refl _) (by simp) ?_; (case hd => rfl); (case hg => rfl); (case hr => first | (go_simp; done) | (go_simp; rfl)); (case hp => exact (Reps.none _ _)); intro v5 w1 ho10 hb hg_ hnew_; have O1 := Aside0.mk ho10; have B1 := Aside0.mk hb; clear hb ho10 hg_ hnew_) | ((with_reducible refine gate_builtin (b := .append) (xs := #[.tmp 5, .tmp 6]) rfl ?_); at_builtin; refine Kd.R_append_rows k64 (Rr := k64.M w1 N (fun k => ok k ∧ k < w.heap.size)) (w0 := w) N rfl (.tmp 5) (.tmp 6) 53 64 (.agg #[.slice none 0 0, .int .i64 0]) 32 rfl Try.underlying53 info64_ rfl (by decide) (by omega) v5 [] l _ _ _ (OKN ok w) (fun k => ok k ∧ k < w.heap.size) rfl rfl ?aO ?aR (fun _ _ h => h) ?aK ?aF ?aB ?aS ?aL ?_; (case aR => exact ReadsRow.imp_ HC.out B1.out (fun _ _ hp => k64.M_move (fun k hk => B1.out.block k hk.2) hp)); (case aK => exact fun k hk => ⟨.inl hk, fun e => by have := Kd.R_base O1.out k e.symm; omega⟩); (case aF => exact fun k hk => .inr (Nat.le_trans B1.out.size hk)); (case aB => exact B1.out.mono HN.out); (case aO => exact Kd.R_lower (Kd.R_mono (Kd.R_bound O1.out) (fun k hk => .inr hk.2.1)) HN.out); (case aS => exact Nat.le_trans HN.out B1.out.size); (case aL => have := HL.out; simp only [List.length_nil]; omega); intro v7 w2 ho hb hg hat; rw [List.nil_append] at ho; have O2 := Aside0.mk ho; have B2 := Aside0.mk (below_grown B1.out hg (Kd.R_base O1.out)); have V2 := Aside0.mk (show ∀ k, v7.ownBlock = some k → w.heap.size ≤ k from fun k e => by rcases hat with h | ⟨b, h, hl⟩; (exact Kd.R_base O1.out k (by rw [← h]; exact e)); (rw [h] at e; injection e with e; have := B1.out.size; omega)); clear ho hb hg hat))
  go_ret
  exact ⟨_, rfl, O2.out, V2.out, B2.out⟩
set_option maxHeartbeats 4000000 in
set_option maxRecDepth 100000 in
theorem clone35_calls {A : Option Addr} {n c N : Nat} {l : List S35} {ok : Nat → Prop} {w : World} (hn : n = l.length) (hN : N ≤ w.heap.size) (hC : ReadsRow (k35.M w N (fun k => ok k ∧ k < w.heap.size)) 11 w A l.length l) (hl : l.length * 120 ≤ 140737488355328) :
    Calls Try.prog 33 #[.slice A n c] w fun x w' => ∃ v, x = .returned v ∧ Kd.R k35 35 w' N (OKN ok w) v l ∧ (∀ k, v.ownBlock = some k → w.heap.size ≤ k) ∧ Below w.heap.size w w' := by
  subst hn
  have B0 := Aside0.mk (Below.refl w.heap.size w)
  have HC := Aside0.mk hC; have HL := Aside0.mk hl; have HN := Aside0.mk hN
  rcases A with _ | A
  · obtain rfl := row_none hC
    clear hC hl hN
    go_enter Try.func33, Try.ntmps33
    go_wp2_with fail
    go_ret
    exact ⟨_, rfl, Kd.R_nil _ _ _ _ _, by simp [Value.ownBlock], B0.out⟩
  clear hC hl hN
  go_enter Try.func33, Try.ntmps33
  go_wp2_with (first | ((with_reducible refine gate_dst (N := 5) rfl ?_); refine Kd.R_lit k35 _ 35 ?hg (N := 5) ?hd (xs := ([] : List S35)) (inner := []) (ok := fun _ => True) (okp := fun _ => True) ?hr ?hp (fun _ hk => hk) trivial (Below.refl _ _) (Nat.le_refl _) (by simp) ?_; (case hd => rfl); (case hg => rfl); (case hr => first | (go_simp; done) | (go_simp; rfl)); (case hp => exact (Reps.none _ _)); intro v5 w1 ho10 hb hg_ hnew_; have O1 := Aside0.mk ho10; have B1 := Aside0.mk hb; clear hb ho10 hg_ hnew_) | ((with_reducible refine gate_builtin (b := .append) (xs := #[.tmp 5, .tmp 6]) rfl ?_); at_builtin; refine Kd.R_append_rows k35 (Rr := k35.M w1 N (fun k => ok k ∧ k < w.heap.size)) (w0 := w) N rfl (.tmp 5) (.tmp 6) 52 35 (.agg #[.int .i64 0, .int .i64 0, .int .i64 0, .int .i64 0, .int .i64 0, .int .i64 0, .int .i64 0, .int .i64 0, .bool false, .slice none 0 0, .slice none 0 0]) 120 rfl Try.underlying52 info35_ rfl (by decide) (by omega) v5 [] l _ _ _ (OKN ok w) (fun k => ok k ∧ k < w.heap.size) rfl rfl ?aO ?aR (fun _ _ h => h) ?aK ?aF ?aB ?aS ?aL ?_; (case aR => exact ReadsRow.imp_ HC.out B1.out (fun _ _ hp => k35.M_move (fun k hk => B1.out.block k hk.2) hp)); (case aK => exact fun k hk => ⟨.inl hk, fun e => by have := Kd.R_base O1.out k e.symm; omega⟩); (case aF => exact fun k hk => .inr (Nat.le_trans B1.out.size hk)); (case aB => exact B1.out.mono HN.out); (case aO => exact Kd.R_lower (Kd.R_mono (Kd.R_bound O1.out) (fun k hk => .inr hk.2.1)) HN.out); (case aS => exact Nat.le_trans HN.out B1.out.size); (case aL => have := HL.out; simp only [List.length_nil]; omega); intro v7 w2 ho hb hg hat; rw [List.nil_append] at ho; have O2 := Aside0.mk ho; have B2 := Aside0.mk (below_grown B1.out hg (Kd.R_base O1.out)); have V2 := Aside0.mk (show ∀ k, v7.ownBlock = some k → w.heap.size ≤ k from fun k e => by rcases hat with h | ⟨b, h, hl⟩; (exact Kd.R_base O1.out k (by rw [← h]; exact e)); (rw [h] at e; injection e with e; have := B1.out.size; omega)); clear ho hb hg hat))
  go_ret
  exact ⟨_, rfl, O2.out, V2.out, B2.out⟩
/-- what a message is in memory -/
abbrev mgV (m : S35) (v8 v9 : Value) : Value := .agg #[.int .i64 m.f0, .int .i64 m.f1.f0, .int .i64 m.f1.f1, .int .i64 m.f2, .int .i64 m.f3, .int .i64 m.f4, .int .i64 m.f5, .int .i64 m.f6, .bool m.f7, v8, v9]
/-- a message of its own -/
def Mg (w : World) (base : Nat) (ok : Nat → Prop) (m : S35) (x : Value) : Prop := ∃ v8 v9, x = mgV m v8 v9 ∧ Kd.R k47 47 w base ok v8 m.f8 ∧ Kd.R (Kd.int .i64) 2 w base ok v9 m.f9
/-- rows that may be copied -/
def FitM (m : S35) : Prop := m.f8.length * 32 ≤ 140737488355328 ∧ m.f9.length * 8 ≤ 140737488355328
set_option maxHeartbeats 4000000 in
set_option maxRecDepth 100000 in
theorem mcopied_calls {m : S35} {A8 : Option Addr} {C8 : Nat} {A9 : Option Addr} {C9 : Nat} {w : World} (h8 : Kd.C k47 w A8 m.f8.length m.f8) (h9 : Kd.C (Kd.int .i64) w A9 m.f9.length m.f9) (hf : FitM m) :
    Calls Try.prog 29 #[mgV m (.slice A8 m.f8.length C8) (.slice A9 m.f9.length C9)] w fun x w' => ∃ v, x = .returned v ∧ Mg w' w.heap.size (fun _ => True) m v ∧ Below w.heap.size w w' := by
  have B0 := Aside0.mk (Below.refl w.heap.size w)
  have H8 := Aside0.mk h8; have H9 := Aside0.mk h9; have L8 := Aside0.mk hf.1; have L9 := Aside0.mk hf.2
  clear h8 h9 hf
  go_enter Try.func29, Try.ntmps29
  go_upto_region 1 with (first | ((with_reducible refine gate_dst (N := 1) rfl ?_); refine box_event ?hg (N := 1) ?hd (cs := #[.int .i64 m.f0, .int .i64 m.f1.f0, .int .i64 m.f1.f1, .int .i64 m.f2, .int .i64 m.f3, .int .i64 m.f4, .int .i64 m.f5, .int .i64 m.f6, .bool m.f7, .slice A8 m.f8.length C8, .slice A9 m.f9.length C9]) (t := 35) ?hr ?_; (case hd => rfl); (case hg => rfl); (case hr => first | (go_simp; done) | (go_simp; rfl)); intro g1 hg w1 hbox hb; have B1 := Aside0.mk (below_step B0.out hb); have P1 := Aside0.mk hbox; have G1 := Aside0.mk (show w.heap.size ≤ g1 from by rw [hg]; exact Nat.le_refl _); clear hb hg hbox) | ((with_reducible refine gate_dst (N := 2) rfl ?_); refine box_event ?hg (N := 2) ?hd (cs := #[.int .i64 0, .int .i64 0, .int .i64 0, .int .i64 0, .int .i64 0, .int .i64 0, .int .i64 0, .int .i64 0, .bool false, .slice none 0 0, .slice none 0 0]) (t := 35) ?hr ?_; (case hd => rfl); (case hg => rfl); (case hr => first | (go_simp; done) | (go_simp; rfl)); intro g2 hg w2 hbox hb; have B2 := Aside0.mk (below_step B1.out hb); have P2 := Aside0.mk (blk_below P1.out hb); have Q2 := Aside0.mk hbox; have G2 := Aside0.mk (show w.heap.size ≤ g2 ∧ g1 < g2 from ⟨by rw [hg]; exact B1.out.size, by rw [hg]; exact blk_lt P1.out⟩); clear hb hg hbox))
  refine start_ (n := 10) (S := fun w' => w'.cell? ⟨g1, 9, none⟩ = some (.slice A8 m.f8.length C8) ∧ w'.cell? ⟨g1, 10, none⟩ = some (.slice A9 m.f9.length C9)) (ds := [7, 9]) #[false, false, false, false, false, false, false, false, false, false] (by kernel_rfl) rfl rfl ⟨(blk_cell (blk_drew P2.out) 9).trans rfl, (blk_cell (blk_drew P2.out) 10).trans rfl⟩ (fun hHeld => ?_)
  refine pure_ (i := 0) (N := some 3) (v := ?_) (a' := ?_) #[true, false, false, false, false, false, false, false, false, false] rfl rfl (by kernel_rfl) (fun _ _ _ h => h) (Or.inl ⟨by rfl, ?_⟩) ?_ ?_
  rotate_left
  · intro w'
    go_simp
    with_reducible rfl
  rotate_left
  · simp only [Act.put, List.setIfInBounds_toArray, List.set_cons_zero, List.set_cons_succ, i64_w, i32_w]
    rfl
  refine pure_ (i := 3) (N := some 6) (v := ?_) (a' := ?_) #[true, false, false, true, false, false, false, false, false, false] rfl rfl (by kernel_rfl) (fun _ _ _ h => h) (Or.inl ⟨by rfl, ?_⟩) ?_ ?_
  rotate_left
  · intro w'
    go_simp
    with_reducible rfl
  rotate_left
  · simp only [Act.put, List.setIfInBounds_toArray, List.set_cons_zero, List.set_cons_succ, i64_w, i32_w]
    rfl
  refine take_ (i := 1) (N := some 4) (v := ?_) (a' := ?_) #[true, true, false, true, false, false, false, false, false, false] rfl rfl (by kernel_rfl) (fun _ _ _ h => h) (Or.inl ⟨by rfl, ?_⟩) hHeld ?_ ?_
  rotate_left
  · rintro w' ⟨s0, s1⟩
    go_simp
    with_reducible rfl
  rotate_left
  · simp only [Act.put, List.setIfInBounds_toArray, List.set_cons_zero, List.set_cons_succ, i64_w, i32_w]
    rfl
  refine take_ (i := 4) (N := some 7) (v := ?_) (a' := ?_) #[true, true, false, true, true, false, false, false, false, false] rfl rfl (by kernel_rfl) (fun _ _ _ h => h) (Or.inl ⟨by rfl, ?_⟩) hHeld ?_ ?_
  rotate_left
  · rintro w' ⟨s0, s1⟩
    go_simp
    with_reducible rfl
  rotate_left
  · simp only [Act.put, List.setIfInBounds_toArray, List.set_cons_zero, List.set_cons_succ, i64_w, i32_w]
    rfl
  refine one_ (i := 2) (N := some 5) #[true, true, true, true, true, false, false, false, false, false] rfl rfl (by kernel_rfl) (by decide) (fun K hK => ?_)
  refine goes_ Try.func30 (by kernel_rfl) rfl #[.slice A8 m.f8.length C8] (by rfl) rfl rfl (by simp only [List.map_toArray, List.map_cons, List.map_nil]; rfl) ?_
  with_reducible refine (clone47_calls (w := w2.drew) rfl (Kd.C_below H8.out (below_step B2.out (below_drew (Below.refl _ _)))) L8.out).mono ?_
  rintro x w3 ⟨v8, rfl, hO, hb⟩
  refine ⟨_, rfl, ?_⟩
  obtain ⟨A13, c13, e8⟩ := Kd.R_slice hO
  subst e8
  have B3 := Aside0.mk (below_step (below_step B2.out (below_drew (Below.refl _ _))) hb)
  have P3 := Aside0.mk (blk_below (blk_drew P2.out) hb)
  have Q3 := Aside0.mk (blk_below (blk_drew Q2.out) hb)
  have O3 := Aside0.mk (Kd.R_lower (Kd.R_mono (ok' := fun k => k ≠ g1 ∧ k ≠ g2) (Kd.R_bound hO) (fun k hk => ⟨Nat.ne_of_gt (Nat.lt_of_lt_of_le (blk_lt P2.out) hk.2.1), Nat.ne_of_gt (Nat.lt_of_lt_of_le (blk_lt Q2.out) hk.2.1)⟩)) (below_step B2.out (below_drew (Below.refl _ _))).size)
  clear hO hb
  refine hK.out _ _ ⟨(blk_cell P3.out 9).trans rfl, (blk_cell P3.out 10).trans rfl⟩ (fun hHeld => ?_)
  clear hK K
  refine norm_ (a' := ?_) ?_ ?_
  rotate_left
  · show Act.put _ (some 5) _ = _
    simp only [Act.put, List.setIfInBounds_toArray, List.set_cons_zero, List.set_cons_succ, i64_w, i32_w]
    rfl
  refine pure_ (i := 6) (N := some 9) (v := ?_) (a' := ?_) #[true, true, true, true, true, false, true, false, false, false] rfl rfl (by kernel_rfl) (fun _ _ _ h => h) (Or.inl ⟨by rfl, ?_⟩) ?_ ?_
  rotate_left
  · intro w'
    go_simp
    with_reducible rfl
  rotate_left
  · simp only [Act.put, List.setIfInBounds_toArray, List.set_cons_zero, List.set_cons_succ, i64_w, i32_w]
    rfl
  refine one_ (i := 5) (N := some 8) #[true, true, true, true, true, true, true, false, false, false] rfl rfl (by kernel_rfl) (by decide) (fun K hK => ?_)
  refine goes_ Try.func31 (by kernel_rfl) rfl #[.slice A9 m.f9.length C9] (by rfl) rfl rfl (by simp only [List.map_toArray, List.map_cons, List.map_nil]; rfl) ?_
  with_reducible refine (clone2_calls (w := w3) rfl (Kd.C_below H9.out B3.out) L9.out).mono ?_
  rintro x w4 ⟨v9, rfl, hO, hb⟩
  refine ⟨_, rfl, ?_⟩
  obtain ⟨A14, c14, e9⟩ := Kd.R_slice hO
  subst e9
  have B4 := Aside0.mk (below_step B3.out hb)
  have P4 := Aside0.mk (blk_below P3.out hb)
  have Q4 := Aside0.mk (blk_below Q3.out hb)
  have O4 := Aside0.mk (Kd.R_below O3.out hb)
  have N4 := Aside0.mk (Kd.R_lower (Kd.R_mono (ok' := fun k => k ≠ g1 ∧ k ≠ g2) (Kd.R_bound hO) (fun k hk => ⟨Nat.ne_of_gt (Nat.lt_of_lt_of_le (blk_lt P3.out) hk.2.1), Nat.ne_of_gt (Nat.lt_of_lt_of_le (blk_lt Q3.out) hk.2.1)⟩)) B3.out.size)
  have zf13 := blk_frozen P4.out 9
  have zf14 := blk_frozen P4.out 10
  have zc13 := (blk_cell P4.out 9).trans rfl
  have zc14 := (blk_cell P4.out 10).trans rfl
  clear hO hb
  refine hK.out _ _ ⟨(blk_cell P4.out 9).trans rfl, (blk_cell P4.out 10).trans rfl⟩ (fun hHeld => ?_)
  clear hK K
  refine norm_ (a' := ?_) ?_ ?_
  rotate_left
  · show Act.put _ (some 8) _ = _
    simp only [Act.put, List.setIfInBounds_toArray, List.set_cons_zero, List.set_cons_succ, i64_w, i32_w]
    rfl
  refine last_ (i := 7) (N := none) #[true, true, true, true, true, true, true, true, false, false] rfl rfl (by kernel_rfl) (by decide) (fun K hK => ?_)
  refine skip_ (w1 := ?_) (by rfl) rfl ?_ ?_
  rotate_left
  · go_simp
    rfl
  refine hK.out _ _ ?_
  clear hK K
  refine pure_ (i := 8) (N := some 10) (v := ?_) (a' := ?_) #[true, true, true, true, true, true, true, true, true, false] rfl rfl (by kernel_rfl) (fun _ _ _ h => h) (Or.inl ⟨by rfl, ?_⟩) ?_ ?_
  rotate_left
  · intro w'
    go_simp
    with_reducible rfl
  rotate_left
  · simp only [Act.put, List.setIfInBounds_toArray, List.set_cons_zero, List.set_cons_succ, i64_w, i32_w]
    rfl
  refine last_ (i := 9) (N := none) #[true, true, true, true, true, true, true, true, true, true] rfl rfl (by kernel_rfl) (by decide) (fun K hK => ?_)
  refine skip_ (w1 := ?_) (by rfl) rfl ?_ ?_
  rotate_left
  · go_simp
    rfl
  refine hK.out _ _ ?_
  clear hK K
  refine done_ (by kernel_rfl) ?_
  have B5 := Aside0.mk (below_setB (below_setB B4.out (p := ⟨g1, 9, none⟩) G1.out (.slice A13 m.f8.length c13)) (p := ⟨g1, 10, none⟩) G1.out (.slice A14 m.f9.length c14))
  have P5 := Aside0.mk (blk_put (blk_put P4.out 9 (.slice A13 m.f8.length c13) (cs' := #[.int .i64 m.f0, .int .i64 m.f1.f0, .int .i64 m.f1.f1, .int .i64 m.f2, .int .i64 m.f3, .int .i64 m.f4, .int .i64 m.f5, .int .i64 m.f6, .bool m.f7, .slice A13 m.f8.length c13, .slice A9 m.f9.length C9]) rfl) 10 (.slice A14 m.f9.length c14) (cs' := #[.int .i64 m.f0, .int .i64 m.f1.f0, .int .i64 m.f1.f1, .int .i64 m.f2, .int .i64 m.f3, .int .i64 m.f4, .int .i64 m.f5, .int .i64 m.f6, .bool m.f7, .slice A13 m.f8.length c13, .slice A14 m.f9.length c14]) rfl)
  have Q5 := Aside0.mk (((((Kept.refl w4 (fun k => k = g1)).setCell (p := ⟨g1, 9, none⟩) (.inl rfl) (.slice A13 m.f8.length c13)).setCell (p := ⟨g1, 10, none⟩) (.inl rfl) (.slice A14 m.f9.length c14)).2 g2 (blk_lt Q4.out) (Nat.ne_of_gt G2.out.2)).trans Q4.out)
  have O5 := Aside0.mk (Kd.R_kept O4.out (((Kept.refl w4 (fun k => k = g1)).setCell (p := ⟨g1, 9, none⟩) (.inl rfl) (.slice A13 m.f8.length c13)).setCell (p := ⟨g1, 10, none⟩) (.inl rfl) (.slice A14 m.f9.length c14)) (fun k hk e => hk.1 e))
  have N5 := Aside0.mk (Kd.R_kept N4.out (((Kept.refl w4 (fun k => k = g1)).setCell (p := ⟨g1, 9, none⟩) (.inl rfl) (.slice A13 m.f8.length c13)).setCell (p := ⟨g1, 10, none⟩) (.inl rfl) (.slice A14 m.f9.length c14)) (fun k hk e => hk.1 e))
  clear zf13 zf14 zc13 zc14 P2 P3 P4 Q2 Q3 Q4 O3 O4 N4 B3 B4
  generalize ((w4.setCell ⟨g1, 9, none⟩ (.slice A13 m.f8.length c13)).setCell ⟨g1, 10, none⟩ (.slice A14 m.f9.length c14)) = w5 at B5 P5 Q5 O5 N5 ⊢
  have xc0 : w5.cell? ⟨g1, 0, none⟩ = some (.int .i64 m.f0) := (blk_cell P5.out 0).trans rfl; have xf0 := blk_frozen P5.out 0; have xc1 : w5.cell? ⟨g1, 1, none⟩ = some (.int .i64 m.f1.f0) := (blk_cell P5.out 1).trans rfl; have xf1 := blk_frozen P5.out 1; have xc2 : w5.cell? ⟨g1, 2, none⟩ = some (.int .i64 m.f1.f1) := (blk_cell P5.out 2).trans rfl; have xf2 := blk_frozen P5.out 2; have xc3 : w5.cell? ⟨g1, 3, none⟩ = some (.int .i64 m.f2) := (blk_cell P5.out 3).trans rfl; have xf3 := blk_frozen P5.out 3; have xc4 : w5.cell? ⟨g1, 4, none⟩ = some (.int .i64 m.f3) := (blk_cell P5.out 4).trans rfl; have xf4 := blk_frozen P5.out 4; have xc5 : w5.cell? ⟨g1, 5, none⟩ = some (.int .i64 m.f4) := (blk_cell P5.out 5).trans rfl; have xf5 := blk_frozen P5.out 5; have xc6 : w5.cell? ⟨g1, 6, none⟩ = some (.int .i64 m.f5) := (blk_cell P5.out 6).trans rfl; have xf6 := blk_frozen P5.out 6; have xc7 : w5.cell? ⟨g1, 7, none⟩ = some (.int .i64 m.f6) := (blk_cell P5.out 7).trans rfl; have xf7 := blk_frozen P5.out 7; have xc8 : w5.cell? ⟨g1, 8, none⟩ = some (.bool m.f7) := (blk_cell P5.out 8).trans rfl; have xf8 := blk_frozen P5.out 8; have xc9 : w5.cell? ⟨g1, 9, none⟩ = some (.slice A13 m.f8.length c13) := (blk_cell P5.out 9).trans rfl; have xf9 := blk_frozen P5.out 9; have xc10 : w5.cell? ⟨g1, 10, none⟩ = some (.slice A14 m.f9.length c14) := (blk_cell P5.out 10).trans rfl; have xf10 := blk_frozen P5.out 10; have yc0 : w5.cell? ⟨g2, 0, none⟩ = some (.int .i64 0) := (blk_cell Q5.out 0).trans rfl; have yf0 := blk_frozen Q5.out 0; have yc1 : w5.cell? ⟨g2, 1, none⟩ = some (.int .i64 0) := (blk_cell Q5.out 1).trans rfl; have yf1 := blk_frozen Q5.out 1; have yc2 : w5.cell? ⟨g2, 2, none⟩ = some (.int .i64 0) := (blk_cell Q5.out 2).trans rfl; have yf2 := blk_frozen Q5.out 2; have yc3 : w5.cell? ⟨g2, 3, none⟩ = some (.int .i64 0) := (blk_cell Q5.out 3).trans rfl; have yf3 := blk_frozen Q5.out 3; have yc4 : w5.cell? ⟨g2, 4, none⟩ = some (.int .i64 0) := (blk_cell Q5.out 4).trans rfl; have yf4 := blk_frozen Q5.out 4; have yc5 : w5.cell? ⟨g2, 5, none⟩ = some (.int .i64 0) := (blk_cell Q5.out 5).trans rfl; have yf5 := blk_frozen Q5.out 5; have yc6 : w5.cell? ⟨g2, 6, none⟩ = some (.int .i64 0) := (blk_cell Q5.out 6).trans rfl; have yf6 := blk_frozen Q5.out 6; have yc7 : w5.cell? ⟨g2, 7, none⟩ = some (.int .i64 0) := (blk_cell Q5.out 7).trans rfl; have yf7 := blk_frozen Q5.out 7; have yc8 : w5.cell? ⟨g2, 8, none⟩ = some (.bool false) := (blk_cell Q5.out 8).trans rfl; have yf8 := blk_frozen Q5.out 8; have yc9 : w5.cell? ⟨g2, 9, none⟩ = some (.slice none 0 0) := (blk_cell Q5.out 9).trans rfl; have yf9 := blk_frozen Q5.out 9; have yc10 : w5.cell? ⟨g2, 10, none⟩ = some (.slice none 0 0) := (blk_cell Q5.out 10).trans rfl; have yf10 := blk_frozen Q5.out 10
  go_wp2_with fail
  refine bodyPost_ret (results_single rfl (.cell g2 35 #[.int .i64 m.f0, .int .i64 m.f1.f0, .int .i64 m.f1.f1, .int .i64 m.f2, .int .i64 m.f3, .int .i64 m.f4, .int .i64 m.f5, .int .i64 m.f6, .bool m.f7, .slice A13 m.f8.length c13, .slice A14 m.f9.length c14] (0, 0) _ rfl (blk_put (blk_put (blk_put (blk_put (blk_put (blk_put (blk_put (blk_put (blk_put (blk_put (blk_put Q5.out 0 (.int .i64 m.f0) (cs' := #[.int .i64 m.f0, .int .i64 0, .int .i64 0, .int .i64 0, .int .i64 0, .int .i64 0, .int .i64 0, .int .i64 0, .bool false, .slice none 0 0, .slice none 0 0]) rfl) 1 (.int .i64 m.f1.f0) (cs' := #[.int .i64 m.f0, .int .i64 m.f1.f0, .int .i64 0, .int .i64 0, .int .i64 0, .int .i64 0, .int .i64 0, .int .i64 0, .bool false, .slice none 0 0, .slice none 0 0]) rfl) 2 (.int .i64 m.f1.f1) (cs' := #[.int .i64 m.f0, .int .i64 m.f1.f0, .int .i64 m.f1.f1, .int .i64 0, .int .i64 0, .int .i64 0, .int .i64 0, .int .i64 0, .bool false, .slice none 0 0, .slice none 0 0]) rfl) 3 (.int .i64 m.f2) (cs' := #[.int .i64 m.f0, .int .i64 m.f1.f0, .int .i64 m.f1.f1, .int .i64 m.f2, .int .i64 0, .int .i64 0, .int .i64 0, .int .i64 0, .bool false, .slice none 0 0, .slice none 0 0]) rfl) 4 (.int .i64 m.f3) (cs' := #[.int .i64 m.f0, .int .i64 m.f1.f0, .int .i64 m.f1.f1, .int .i64 m.f2, .int .i64 m.f3, .int .i64 0, .int .i64 0, .int .i64 0, .bool false, .slice none 0 0, .slice none 0 0]) rfl) 5 (.int .i64 m.f4) (cs' := #[.int .i64 m.f0, .int .i64 m.f1.f0, .int .i64 m.f1.f1, .int .i64 m.f2, .int .i64 m.f3, .int .i64 m.f4, .int .i64 0, .int .i64 0, .bool false, .slice none 0 0, .slice none 0 0]) rfl) 6 (.int .i64 m.f5) (cs' := #[.int .i64 m.f0, .int .i64 m.f1.f0, .int .i64 m.f1.f1, .int .i64 m.f2, .int .i64 m.f3, .int .i64 m.f4, .int .i64 m.f5, .int .i64 0, .bool false, .slice none 0 0, .slice none 0 0]) rfl) 7 (.int .i64 m.f6) (cs' := #[.int .i64 m.f0, .int .i64 m.f1.f0, .int .i64 m.f1.f1, .int .i64 m.f2, .int .i64 m.f3, .int .i64 m.f4, .int .i64 m.f5, .int .i64 m.f6, .bool false, .slice none 0 0, .slice none 0 0]) rfl) 8 (.bool m.f7) (cs' := #[.int .i64 m.f0, .int .i64 m.f1.f0, .int .i64 m.f1.f1, .int .i64 m.f2, .int .i64 m.f3, .int .i64 m.f4, .int .i64 m.f5, .int .i64 m.f6, .bool m.f7, .slice none 0 0, .slice none 0 0]) rfl) 9 (.slice A13 m.f8.length c13) (cs' := #[.int .i64 m.f0, .int .i64 m.f1.f0, .int .i64 m.f1.f1, .int .i64 m.f2, .int .i64 m.f3, .int .i64 m.f4, .int .i64 m.f5, .int .i64 m.f6, .bool m.f7, .slice A13 m.f8.length c13, .slice none 0 0]) rfl) 10 (.slice A14 m.f9.length c14) (cs' := #[.int .i64 m.f0, .int .i64 m.f1.f0, .int .i64 m.f1.f1, .int .i64 m.f2, .int .i64 m.f3, .int .i64 m.f4, .int .i64 m.f5, .int .i64 m.f6, .bool m.f7, .slice A13 m.f8.length c13, .slice A14 m.f9.length c14]) rfl) Try.underlying35 rfl (by kernel_rfl) .nil)) rfl ?_
  exact ⟨_, rfl, ⟨_, _, rfl, Kd.R_mono (Kd.R_kept O5.out ((((((((((((Kept.refl w5 (fun k => k = g2)).setCell (p := ⟨g2, 0, none⟩) (.inl rfl) (.int .i64 m.f0)).setCell (p := ⟨g2, 1, none⟩) (.inl rfl) (.int .i64 m.f1.f0)).setCell (p := ⟨g2, 2, none⟩) (.inl rfl) (.int .i64 m.f1.f1)).setCell (p := ⟨g2, 3, none⟩) (.inl rfl) (.int .i64 m.f2)).setCell (p := ⟨g2, 4, none⟩) (.inl rfl) (.int .i64 m.f3)).setCell (p := ⟨g2, 5, none⟩) (.inl rfl) (.int .i64 m.f4)).setCell (p := ⟨g2, 6, none⟩) (.inl rfl) (.int .i64 m.f5)).setCell (p := ⟨g2, 7, none⟩) (.inl rfl) (.int .i64 m.f6)).setCell (p := ⟨g2, 8, none⟩) (.inl rfl) (.bool m.f7)).setCell (p := ⟨g2, 9, none⟩) (.inl rfl) (.slice A13 m.f8.length c13)).setCell (p := ⟨g2, 10, none⟩) (.inl rfl) (.slice A14 m.f9.length c14)) (fun k hk e => hk.2 e)) (fun _ _ => trivial), Kd.R_mono (Kd.R_kept N5.out ((((((((((((Kept.refl w5 (fun k => k = g2)).setCell (p := ⟨g2, 0, none⟩) (.inl rfl) (.int .i64 m.f0)).setCell (p := ⟨g2, 1, none⟩) (.inl rfl) (.int .i64 m.f1.f0)).setCell (p := ⟨g2, 2, none⟩) (.inl rfl) (.int .i64 m.f1.f1)).setCell (p := ⟨g2, 3, none⟩) (.inl rfl) (.int .i64 m.f2)).setCell (p := ⟨g2, 4, none⟩) (.inl rfl) (.int .i64 m.f3)).setCell (p := ⟨g2, 5, none⟩) (.inl rfl) (.int .i64 m.f4)).setCell (p := ⟨g2, 6, none⟩) (.inl rfl) (.int .i64 m.f5)).setCell (p := ⟨g2, 7, none⟩) (.inl rfl) (.int .i64 m.f6)).setCell (p := ⟨g2, 8, none⟩) (.inl rfl) (.bool m.f7)).setCell (p := ⟨g2, 9, none⟩) (.inl rfl) (.slice A13 m.f8.length c13)).setCell (p := ⟨g2, 10, none⟩) (.inl rfl) (.slice A14 m.f9.length c14)) (fun k hk e => hk.2 e)) (fun _ _ => trivial)⟩, (below_setB (below_setB (below_setB (below_setB (below_setB (below_setB (below_setB (below_setB (below_setB (below_setB (below_setB B5.out (p := ⟨g2, 0, none⟩) G2.out.1 (.int .i64 m.f0)) (p := ⟨g2, 1, none⟩) G2.out.1 (.int .i64 m.f1.f0)) (p := ⟨g2, 2, none⟩) G2.out.1 (.int .i64 m.f1.f1)) (p := ⟨g2, 3, none⟩) G2.out.1 (.int .i64 m.f2)) (p := ⟨g2, 4, none⟩) G2.out.1 (.int .i64 m.f3)) (p := ⟨g2, 5, none⟩) G2.out.1 (.int .i64 m.f4)) (p := ⟨g2, 6, none⟩) G2.out.1 (.int .i64 m.f5)) (p := ⟨g2, 7, none⟩) G2.out.1 (.int .i64 m.f6)) (p := ⟨g2, 8, none⟩) G2.out.1 (.bool m.f7)) (p := ⟨g2, 9, none⟩) G2.out.1 (.slice A13 m.f8.length c13)) (p := ⟨g2, 10, none⟩) G2.out.1 (.slice A14 m.f9.length c14))⟩
end Go.Proofs.Ythgdojaildccaaa.M
