/-
  The clock's queue in memory: Push and Pop.
-/
import Derived.Test.YtdodaepdghlolaaOClk2
namespace Go.Proofs.Ytdodaepdghlolaa.Pure.Clk
open Go.RowKit Go.Proofs.Ytdodaepdghlolaa.M Go.Proofs.YtdodaepdghlolaaW.PrintWords Go.Proofs.YtdodaepdghlolaaW.PrintLast Go.Proofs.YtdodaepdghlolaaW.PrintMore Go.Proofs.Ytdodaepdghlolaa.Pure
set_option linter.unusedVariables false
set_option linter.unusedSimpArgs false
variable {N : Nat} {P P' : Nat → Prop} {w w' : World} {g : Nat} {now turns : Int} {m : Nat} {q : List Du} {A : Option Addr} {c : Nat}

theorem info60_ : (Try.prog.info? 60).map (fun i => (i.zero, i.size, i.bytes)) = some (some (.pointer none), 1, 8) := by kernel_rfl
theorem assert60 (b : Nat) (W : World) : (Instr.typeAssert (.iface 60 (.pointer (some ⟨b, 0, none⟩))) 20 60 false).run Try.prog W = .ok (.pointer (some ⟨b, 0, none⟩)) W := by
  unfold Instr.typeAssert
  go_simp
attribute [local go_sem] assert60
theorem below_grown {w W W1 : World} {row : Option Nat} (h : Below w.heap.size w W) (hg : W.grownBy W1 row) (hr : ∀ k, row = some k → w.heap.size ≤ k) : Below w.heap.size w W1 :=
  h.trans ⟨hg.os, hg.tape, hg.output, hg.size, fun k hk => hg.block k (Nat.lt_of_lt_of_le hk h.size) (fun e => by have := hr k e.symm; omega)⟩
theorem below_on {N : Nat} {w W W1 : World} (h : Below N w W) (hN : N ≤ W.heap.size) (hb : Below W.heap.size W W1) : Below N w W1 := h.trans (hb.mono hN)
theorem below_gn_ {W W1 : World} (hg : W.grownBy W1 none) : Below W.heap.size W W1 := below_grown (Below.refl _ _) hg (fun k h => by simp at h)
theorem row_far_ {xs : List Nat} {v : Value} {b t : Nat} {cs : Array Value} (h : Kd.R kQ 60 w N P v xs) (hb : w.heap[b]? = some (.cells cs t (0, 0))) (ht : t ≠ 60) (j : Nat) (u : Value) : Kd.R kQ 60 (w.setCell ⟨b, j, none⟩ u) N P v xs :=
  Kd.R_set h hb (fun t' ht' => by
    rcases List.mem_cons.1 ht' with rfl | ht'
    · exact fun e => ht e.symm
    · simp [kQ, Kd.scalar] at ht') j u
/-- a due of its own is written -/
theorem IsQ.far (h : IsQ N P w g now turns m q A c) {b : Nat} {cs : Array Value} (hb : w.heap[b]? = some (.cells cs 63 (0, 0))) (hne : ∀ i, i < q.length → (nth q i).bk ≠ b) (j : Nat) (u : Value) : IsQ N P (w.setCell ⟨b, j, none⟩ u) g now turns m q A c :=
  ⟨blk_far h.hg (p := ⟨b, j, none⟩) (ne_typed h.hg hb (by decide)) u, h.ng, h.pg, row_far_ h.row hb (by decide) j u, fun i hi => ⟨blk_far (h.due i hi).1 (p := ⟨b, j, none⟩) (hne i hi) u, (h.due i hi).2⟩⟩
theorem ne_row {a t : Nat} {x : Array Value} {v : Value} {xs : List Nat} (h : Kd.R kQ 60 w N P v xs) (h1 : w.heap[a]? = some (.cells x t (0, 0))) (ht : t ≠ 60) : some a ≠ v.ownBlock := by
  intro e
  obtain ⟨h0, inner, ho, hr⟩ := h
  obtain ⟨cs, hcs⟩ := own_typed ho a e.symm
  rw [h1] at hcs
  injection hcs with hcs
  injection hcs with _ h3 _
  exact ht h3
theorem nth_snoc {x : Du} (i : Nat) : nth (q ++ [x]) i = if i < q.length then nth q i else if i = q.length then x else zDu := by
  unfold nth
  simp only [List.getD_eq_getElem?_getD]
  by_cases h : i < q.length
  · rw [if_pos h, List.getElem?_append_left h]
  · rw [if_neg h, List.getElem?_append_right (by omega)]
    by_cases e : i = q.length
    · subst e; simp
    · rw [if_neg e]
      have : i - q.length ≠ 0 := by omega
      obtain ⟨k, hk⟩ := Nat.exists_eq_succ_of_ne_zero this
      rw [hk]; rfl
theorem IsQ.pushed (h : IsQ N P w g now turns m q A c) {x : Du} (hx : w.heap[x.bk]? = some (.cells (dcells x q.length) 63 (0, 0))) (hN : N ≤ x.bk) (hP : P x.bk) {w1 : World} (hg : w.grownBy w1 (Value.slice A q.length c).ownBlock) (hp : ∀ k, P k → P' k)
    {A' : Option Addr} {c' : Nat} (hR : Kd.R kQ 60 w1 N P' (.slice A' (q.length + 1) c') (q.map Du.bk ++ [x.bk])) : IsQ N P' (w1.setCell ⟨g, 2, none⟩ (.slice A' (q.length + 1) c')) g now turns m (q ++ [x]) A' c' := by
  have hg1 := blk_grown h.hg hg (ne_row h.row h.hg (by decide))
  have hx1 := blk_grown hx hg (ne_row h.row hx (by decide))
  have L : (q ++ [x]).length = q.length + 1 := by simp
  refine ⟨?_, h.ng, hp _ h.pg, ?_, fun i hi => ?_⟩
  · rw [L]
    exact blk_put hg1 2 (.slice A' (q.length + 1) c') (cs' := #[.int .i64 now, .int .i64 turns, .slice A' (q.length + 1) c', .map (some m)]) rfl
  · rw [L, List.map_append]
    exact row_far_ hR hg1 (by decide) 2 _
  · rw [L] at hi
    rw [nth_snoc]
    by_cases e : i < q.length
    · rw [if_pos e]
      have hd := blk_grown (h.due i e).1 hg (ne_row h.row (h.due i e).1 (by decide))
      exact ⟨blk_far hd (p := ⟨g, 2, none⟩) (ne_typed hd hg1 (by decide)) _, (h.due i e).2.1, hp _ (h.due i e).2.2⟩
    · rw [if_neg e, if_pos (by omega)]
      have e2 : i = q.length := by omega
      subst e2
      exact ⟨blk_far hx1 (p := ⟨g, 2, none⟩) (ne_typed hx1 hg1 (by decide)) _, hN, hp _ hP⟩
theorem nth_take {n i : Nat} (h : i < n) : nth (q.take n) i = nth q i := by
  unfold nth
  simp only [List.getD_eq_getElem?_getD]
  rw [List.getElem?_take_of_lt h]
theorem IsQ.popped (h : IsQ N P w g now turns m q A c) (hq : 0 < q.length) : IsQ N P (w.setCell ⟨g, 2, none⟩ (.slice A (q.length - 1) c)) g now turns m (q.take (q.length - 1)) A c := by
  have L : (q.take (q.length - 1)).length = q.length - 1 := by rw [List.length_take]; omega
  refine ⟨?_, h.ng, h.pg, ?_, fun i hi => ?_⟩
  · rw [L]
    exact blk_put h.hg 2 (.slice A (q.length - 1) c) (cs' := #[.int .i64 now, .int .i64 turns, .slice A (q.length - 1) c, .map (some m)]) rfl
  · rw [L, List.map_take]
    exact row_far_ (Kd.R_take h.row (by rw [List.length_map]; omega)) h.hg (by decide) 2 _
  · rw [L] at hi
    rw [nth_take hi]
    have hd := (h.due i (by omega)).1
    exact ⟨blk_far hd (p := ⟨g, 2, none⟩) (ne_typed hd h.hg (by decide)) _, (h.due i (by omega)).2⟩
set_option maxHeartbeats 8000000 in
set_option maxRecDepth 100000 in
theorem qpush_calls {x : Du} {pl : Int} (h : IsQ N P w g now turns m q A c) (hx : w.heap[x.bk]? = some (.cells #[.string x.nm, .int .i64 x.at_, .int .i64 x.tn, .int .i64 pl] 63 (0, 0))) (hN : N ≤ x.bk) (hP : P x.bk) (hne : ∀ i, i < q.length → (nth q i).bk ≠ x.bk) (hl : q.length ≤ 4096) :
    Calls Try.prog 48 #[.pointer (some ⟨g, 2, none⟩), .iface 60 (.pointer (some ⟨x.bk, 0, none⟩))] w fun e w' => e = .returned (.tuple #[]) ∧ (∃ A' c', IsQ N (fun k => P k ∨ w.heap.size ≤ k) w' g now turns m (q ++ [x]) A' c') ∧ Below N w w' ∧ Kept w w' P := by
  have HX := Aside0.mk hx; have HNX := Aside0.mk hN; have HPX := Aside0.mk hP; have HL := Aside0.mk hl; have HNE := Aside0.mk hne
  have H := Aside0.mk h
  have hsz : N ≤ w.heap.size := by have := blk_lt h.hg; have := h.ng; omega
  have HSZ := Aside0.mk hsz
  have zc0 : w.cell? ⟨g, 0, none⟩ = some (.int .i64 now) := (blk_cell h.hg 0).trans rfl; have zf0 := blk_frozen h.hg 0; have zc1 : w.cell? ⟨g, 1, none⟩ = some (.int .i64 turns) := (blk_cell h.hg 1).trans rfl; have zf1 := blk_frozen h.hg 1; have zc2 : w.cell? ⟨g, 2, none⟩ = some (.slice A q.length c) := (blk_cell h.hg 2).trans rfl; have zf2 := blk_frozen h.hg 2; have zc3 : w.cell? ⟨g, 3, none⟩ = some (.map (some m)) := (blk_cell h.hg 3).trans rfl; have zf3 := blk_frozen h.hg 3
  have yc0 : w.cell? ⟨x.bk, 0, none⟩ = some (.string x.nm) := (blk_cell hx 0).trans rfl; have yf0 := blk_frozen hx 0; have yc1 : w.cell? ⟨x.bk, 1, none⟩ = some (.int .i64 x.at_) := (blk_cell hx 1).trans rfl; have yf1 := blk_frozen hx 1; have yc2 : w.cell? ⟨x.bk, 2, none⟩ = some (.int .i64 x.tn) := (blk_cell hx 2).trans rfl; have yf2 := blk_frozen hx 2; have yc3 : w.cell? ⟨x.bk, 3, none⟩ = some (.int .i64 pl) := (blk_cell hx 3).trans rfl; have yf3 := blk_frozen hx 3
  clear hx hN hP hl hne h hsz
  go_enter Try.func48, Try.ntmps48
  go_upto_region 2 with fail
  have hx1 := blk_put HX.out 3 (.int .i64 (q.length : Int)) (cs' := dcells x q.length) rfl
  have H1 := Aside0.mk (H.out.far HX.out HNE.out 3 (.int .i64 (q.length : Int)))
  have B1 := Aside0.mk (below_setB (Below.refl N w) (p := ⟨x.bk, 3, none⟩) HNX.out (.int .i64 (q.length : Int)))
  have K1 := Aside0.mk ((Kept.refl w P).setCell (p := ⟨x.bk, 3, none⟩) (.inl HPX.out) (.int .i64 (q.length : Int)))
  have HX1 := Aside0.mk hx1
  have S1 := Aside0.mk (show (w.setCell ⟨x.bk, 3, none⟩ (.int .i64 (q.length : Int))).heap.size = w.heap.size by simp [World.setCell])
  clear hx1 H HX zc0 zf0 zc1 zf1 zc2 zf2 zc3 zf3 yc0 yf0 yc1 yf1 yc2 yf2 yc3 yf3
  generalize (w.setCell ⟨x.bk, 3, none⟩ (.int .i64 (q.length : Int))) = w1 at H1 B1 K1 HX1 S1 ⊢
  have zc0 : w1.cell? ⟨g, 0, none⟩ = some (.int .i64 now) := (blk_cell H1.out.hg 0).trans rfl; have zf0 := blk_frozen H1.out.hg 0; have zc1 : w1.cell? ⟨g, 1, none⟩ = some (.int .i64 turns) := (blk_cell H1.out.hg 1).trans rfl; have zf1 := blk_frozen H1.out.hg 1; have zc2 : w1.cell? ⟨g, 2, none⟩ = some (.slice A q.length c) := (blk_cell H1.out.hg 2).trans rfl; have zf2 := blk_frozen H1.out.hg 2; have zc3 : w1.cell? ⟨g, 3, none⟩ = some (.map (some m)) := (blk_cell H1.out.hg 3).trans rfl; have zf3 := blk_frozen H1.out.hg 3
  go_wp2_with (first | ((with_reducible refine gate_dst (N := 19) rfl ?_); refine Kd.R_lit kQ (w0 := w1) w1.heap.size 60 ?hg (N := 19) ?hd (xs := [x.bk]) (inner := [.pointer (some ⟨x.bk, 0, none⟩)]) (ok := fun _ => True) (okp := fun _ => True) ?hr ?hp (fun _ hk => hk) trivial (Below.refl _ _) (Nat.le_refl _) (by simp) ?_; (case hd => rfl); (case hg => rfl); (case hr => first | (go_simp; done) | (go_simp; rfl)); (case hp => exact (Reps.one (show Kd.M kQ _ _ _ x.bk [.pointer (some ⟨x.bk, 0, none⟩)] from rfl) (Reps.none _ _))); intro vL w2 hoL hb_ hg_ hnew_; have hbL := below_gn_ hg_; obtain ⟨AL, cL, eL, hcL, hrL⟩ := Kd.R_reads hoL; subst eL; have RL := Aside0.mk hrL; have H2 := Aside0.mk (H1.out.below hbL); have B2 := Aside0.mk (below_on B1.out (by rw [S1.out]; exact HSZ.out) hbL); have K2 := Aside0.mk (K1.out.below hbL); have HX2 := Aside0.mk (blk_below HX1.out hbL); have S2 := Aside0.mk (Nat.le_trans (Nat.le_of_eq S1.out.symm) hbL.size); clear hoL hb_ hg_ hnew_ hbL hcL hrL) | ((with_reducible refine gate_builtin (b := .append) (xs := #[.tmp 17, .tmp 19]) rfl ?_); at_builtin; refine Kd.R_append_rows kQ (Rr := kQ.K w2) (w0 := w) N rfl (.tmp 17) (.tmp 19) 57 60 (.pointer none) 8 rfl Try.underlying57 info60_ rfl (by decide) (by omega) (.slice A q.length c) (q.map Du.bk) [x.bk] _ _ _ (fun k => P k ∨ w.heap.size ≤ k) (fun _ => False) rfl rfl ?aO ?aR (fun _ _ h => h) (fun _ h => h.elim) ?aF ?aB ?aS ?aL ?_; (case aO => exact Kd.R_mono H2.out.row (fun k hk => .inl hk)); (case aR => exact RL.out); (case aF => exact fun k hk => .inr (Nat.le_trans S2.out hk)); (case aB => exact B2.out); (case aS => exact Nat.le_trans HSZ.out S2.out); (case aL => have := HL.out; simp only [List.length_map, List.length_cons, List.length_nil]; omega); intro v3 w3 ho hb_ hg hat; obtain ⟨A3, c3, e3⟩ := Kd.R_slice ho; rw [List.length_append, List.length_map, List.length_singleton] at e3; subst e3; have R3 := Aside0.mk ho; have G3 := Aside0.mk hg; have B3 := Aside0.mk hb_; have zc : w3.cell? ⟨g, 2, none⟩ = some (.slice A q.length c) := (blk_cell (blk_grown H2.out.hg hg (ne_row H2.out.row H2.out.hg (by decide))) 2).trans rfl; have zf := blk_frozen (blk_grown H2.out.hg hg (ne_row H2.out.row H2.out.hg (by decide))) 2; clear ho hb_ hg hat))
  go_end0
  refine ⟨rfl, ⟨A3, c3, H2.out.pushed HX2.out HNX.out HPX.out G3.out (fun k hk => .inl hk) R3.out⟩, below_setB B3.out (p := ⟨g, 2, none⟩) H2.out.ng _, (Kept.of_grown G3.out K2.out (fun k e => .inl (H2.out.row.1 k e))).setCell (p := ⟨g, 2, none⟩) (.inl H2.out.pg) _⟩
set_option maxHeartbeats 8000000 in
set_option maxRecDepth 100000 in
theorem qpop_calls (h : IsQ N P w g now turns m q A c) (hq : 0 < q.length) (hl : q.length ≤ 4096) :
    Calls Try.prog 47 #[.pointer (some ⟨g, 2, none⟩)] w fun e w' => e = .returned (.iface 60 (.pointer (some ⟨(nth q (q.length - 1)).bk, 0, none⟩))) ∧ IsQ N P w' g now turns m (q.take (q.length - 1)) A c ∧ w'.heap[(nth q (q.length - 1)).bk]? = some (.cells (dcells (nth q (q.length - 1)) (q.length - 1)) 63 (0, 0)) ∧ Below N w w' ∧ Kept w w' P := by
  have H := Aside0.mk h; have HQ := Aside0.mk hq; have HL := Aside0.mk hl
  obtain ⟨r, eA, -, -⟩ := row_at h.row (by omega)
  obtain ⟨ad, had⟩ : ∃ ad, ad = (⟨r, 0, none⟩ : Addr) := ⟨_, rfl⟩
  rw [← had] at eA
  subst eA
  clear had
  have hi : q.length - 1 < q.length := by omega
  have s0 := h.cell hi
  obtain ⟨i, hi'⟩ : ∃ i, i = q.length - 1 := ⟨_, rfl⟩
  rw [← hi'] at s0 hi ⊢
  have HI := Aside0.mk hi'; have HI2 := Aside0.mk hi
  obtain ⟨b, hb⟩ : ∃ b, b = (nth q i).bk := ⟨_, rfl⟩
  rw [← hb] at s0 ⊢
  unfold ptr at s0
  have HB := Aside0.mk hb
  have b1 : wrap64 ((q.length : Int) - 1) = (i : Int) := by rw [hi']; unfold wrap64; omega
  have B0 := Aside0.mk (Below.refl N w)
  have zc0 : w.cell? ⟨g, 0, none⟩ = some (.int .i64 now) := (blk_cell h.hg 0).trans rfl; have zf0 := blk_frozen h.hg 0; have zc1 : w.cell? ⟨g, 1, none⟩ = some (.int .i64 turns) := (blk_cell h.hg 1).trans rfl; have zf1 := blk_frozen h.hg 1; have zc2 : w.cell? ⟨g, 2, none⟩ = some (.slice (some ad) q.length c) := (blk_cell h.hg 2).trans rfl; have zf2 := blk_frozen h.hg 2; have zc3 : w.cell? ⟨g, 3, none⟩ = some (.map (some m)) := (blk_cell h.hg 3).trans rfl; have zf3 := blk_frozen h.hg 3
  have ii0 : (0 : Int) ≤ (i : Int) := by omega
  have ii1 : (i : Int) < (q.length : Int) := by omega
  have ii2 := eq_true ii0; have ii3 := eq_true ii1; have ii4 : decide ((0 : Int) ≤ (i : Int)) = true := decide_eq_true ii0; have ii5 : decide ((i : Int) < (q.length : Int)) = true := decide_eq_true ii1
  have l1 : ((i : Int) ≤ (q.length : Int)) = True := eq_true (by omega)
  have l2 : decide ((i : Int) ≤ (q.length : Int)) = true := decide_eq_true (by omega)
  have l3 : ((i : Int) ≤ (c : Int)) = True := eq_true (by have := h.cap; omega)
  have l4 : decide ((i : Int) ≤ (c : Int)) = true := decide_eq_true (by have := h.cap; omega)
  have l5 : (i ≤ c) = True := eq_true (by have := h.cap; omega)
  have l6 : decide (i ≤ c) = true := decide_eq_true (by have := h.cap; omega)
  have l7 : (i < q.length) = True := eq_true hi
  clear h hq hl hi hi' hb
  go_enter Try.func47, Try.ntmps47
  go_wp2_with fail
  go_ret
  refine ⟨rfl, ?_, ?_, ?_, ?_⟩
  · have := H.out.popped HQ.out
    rw [← HI.out] at this
    exact this
  · have := (H.out.due i HI2.out).1
    rw [← HB.out] at this
    exact blk_far this (p := ⟨g, 2, none⟩) (ne_typed this H.out.hg (by decide)) _
  · exact below_setB B0.out (p := ⟨g, 2, none⟩) H.out.ng _
  · exact (Kept.refl w P).setCell (p := ⟨g, 2, none⟩) (.inl H.out.pg) _
end Go.Proofs.Ytdodaepdghlolaa.Pure.Clk
