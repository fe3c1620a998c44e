/-
  The clock in memory: Tick.
-/
import Derived.Test.YtdodaepdghlolaaOClk8
namespace Go.Proofs.Ytdodaepdghlolaa.Pure.Clk
open Go.RowKit Go.Proofs.Ytdodaepdghlolaa.M Go.Proofs.YtdodaepdghlolaaW.PrintWords Go.Proofs.YtdodaepdghlolaaW.PrintLast Go.Proofs.YtdodaepdghlolaaW.PrintMore Go.Proofs.Ytdodaepdghlolaa.Pure
set_option linter.unusedVariables false
set_option linter.unusedSimpArgs false
open Go.Maps (Keyed)
attribute [local go_sem] assert60
variable {N : Nat} {P P' : Nat → Prop} {w w' : World} {g : Nat} {now turns : Int} {m : Nat} {q d : List Du} {A : Option Addr} {c : Nat}
theorem good_tick (h : Good now turns d) (hs : ∀ x ∈ d, now < x.at_) (hm : now < 1099511627776) : Good (now + 1) turns d :=
  ⟨h.names, fun x hx => by have := h.all x hx; have := hs x hx; exact ⟨by omega, (h.all x hx).2.1, (h.all x hx).2.2.1, (h.all x hx).2.2.2.1, (h.all x hx).2.2.2.2⟩, h.turn, ⟨by have := h.time; omega, by omega, h.time.2.2⟩, h.len⟩
theorem soon_len (d : List Du) (t : Int) : (soon d t).length ≤ d.length := List.length_filter_le _ _
/-- the first of a heap is the least -/
theorem first_least (hp : Hp q q.length) (hq : q.Perm d) : ∀ y ∈ d, key (nth q 0) ≤ key y := fun y hy => by
  obtain ⟨i, hi, e⟩ := mem_at (hq.mem_iff.2 hy)
  have := hp_least hp i hi
  unfold kq at this
  rw [e] at this
  exact this
/-- a round of the loop in Tick -/
def TR (d d1 : List Du) (t : Int) (L : List ByteArray) : Prop := L ++ (soon d1 t).map Du.nm = (soon d t).map Du.nm ∧ late d1 t = late d t ∧ d1.length ≤ d.length
theorem TR.pop {d d1 : List Du} {L : List ByteArray} (h : TR d d1 now L) (hg : Good now turns d1) (ht : turns < 4611686018427387904) {x : Du} (hx : x ∈ d1) (ha : x.at_ ≤ now) (hm : ∀ y ∈ d1, key x ≤ key y) : TR d (but d1 x.nm) now (L ++ [x.nm]) := by
  refine ⟨?_, (late_but hx ha hg.names).trans h.2.1, Nat.le_trans (List.length_filter_le _ _) h.2.2⟩
  rw [← h.1, soon_first hg ht hx ha hm]
  simp
theorem key_at {x y : Du} (hx : 0 ≤ x.tn ∧ x.tn < 9223372036854775807) (hy : 0 ≤ y.tn ∧ y.tn < 9223372036854775807) (h : key x ≤ key y) : x.at_ ≤ y.at_ := by
  unfold key at h; omega
theorem TR.done {d d1 : List Du} {L : List ByteArray} (h : TR d d1 now L) (hn : ∀ x ∈ d1, now < x.at_) : L = (soon d now).map Du.nm ∧ d1 = late d now := by
  obtain ⟨h1, h2⟩ := soon_nil hn
  rw [TR, h1, h2] at h
  exact ⟨by simpa using h.1, h.2.1⟩
theorem TR.len {d d1 : List Du} {L : List ByteArray} (h : TR d d1 now L) : L.length ≤ d.length := by
  have := congrArg List.length h.1
  simp at this
  have := soon_len d now
  omega
theorem ne_map {D : DW} {n b : Nat} {cs : Array Value} {t : Nat} (h : w.ownsMap Try.prog 9 RB m n D) (hb : w.heap[b]? = some (.cells cs t (0, 0))) : b ≠ m := by
  obtain ⟨es, clock, h2, _⟩ := h
  intro e
  subst e
  rw [hb] at h2
  injection h2 with h2
  cases h2
theorem R_drew_ {α : Type} {dd : Kd α} {e N : Nat} {ok : Nat → Prop} {v : Value} {xs : List α} (h : Kd.R dd e w N ok v xs) : Kd.R dd e w.drew N ok v xs := Kd.R_below h (below_drew (Below.refl _ _))
set_option maxHeartbeats 8000000 in
set_option maxRecDepth 100000 in
theorem tick_end (h : Ck N P w g 1099511627776 turns d) : Calls Try.prog 11 #[.pointer (some ⟨g, 0, none⟩)] w fun e w' => e = .returned (.slice none 0 0) ∧ Below w.heap.size w w' := by
  obtain ⟨m, q, A, c, D, h⟩ := h
  have H := Aside0.mk h
  have zc0 : w.cell? ⟨g, 0, none⟩ = some (.int .i64 1099511627776) := (blk_cell h.isq.hg 0).trans rfl; have zf0 := blk_frozen h.isq.hg 0; have zc1 : w.cell? ⟨g, 1, none⟩ = some (.int .i64 turns) := (blk_cell h.isq.hg 1).trans rfl; have zf1 := blk_frozen h.isq.hg 1; have zc2 : w.cell? ⟨g, 2, none⟩ = some (.slice A q.length c) := (blk_cell h.isq.hg 2).trans rfl; have zf2 := blk_frozen h.isq.hg 2; have zc3 : w.cell? ⟨g, 3, none⟩ = some (.map (some m)) := (blk_cell h.isq.hg 3).trans rfl; have zf3 := blk_frozen h.isq.hg 3
  have B0 := Aside0.mk (Below.refl w.heap.size w)
  clear h
  go_enter Try.func11, Try.ntmps11
  go_wp2_with fail
  go_ret
  exact ⟨rfl, B0.out⟩
set_option maxHeartbeats 8000000 in
set_option maxRecDepth 100000 in
theorem tick_calls (h : Ck N P w g now turns d) (hs : ∀ x ∈ d, now < x.at_) (hm : now < 1099511627776) (htu : turns < 4611686018427387903) :
    Calls Try.prog 11 #[.pointer (some ⟨g, 0, none⟩)] w fun e w' => (∃ v, e = .returned v ∧ Kd.R Kd.string 9 w' w.heap.size (fun k => w.heap.size ≤ k) v ((soon d (now + 1)).map Du.nm)) ∧ Ck N (fun k => P k ∧ k < w.heap.size) w' g (now + 1) turns (late d (now + 1)) ∧ Below N w w' ∧ Kept w w' (fun k => P k ∧ k < w.heap.size) := by
  have hk := h.bnd
  clear h
  obtain ⟨m, q, A, c, D, h⟩ := hk
  have H := Aside0.mk h
  have zc0 : w.cell? ⟨g, 0, none⟩ = some (.int .i64 now) := (blk_cell h.isq.hg 0).trans rfl; have zf0 := blk_frozen h.isq.hg 0; have zc1 : w.cell? ⟨g, 1, none⟩ = some (.int .i64 turns) := (blk_cell h.isq.hg 1).trans rfl; have zf1 := blk_frozen h.isq.hg 1; have zc2 : w.cell? ⟨g, 2, none⟩ = some (.slice A q.length c) := (blk_cell h.isq.hg 2).trans rfl; have zf2 := blk_frozen h.isq.hg 2; have zc3 : w.cell? ⟨g, 3, none⟩ = some (.map (some m)) := (blk_cell h.isq.hg 3).trans rfl; have zf3 := blk_frozen h.isq.hg 3
  have b0 : wrap64 (now + 1) = now + 1 := by have := h.good.time; unfold wrap64; omega
  have b1 : (now == 1099511627776) = false := beq_eq_false_iff_ne.mpr (by omega)
  have GD := Aside0.mk (good_tick h.good hs hm); have HTU := Aside0.mk htu; have HLN := Aside0.mk h.good.len
  go_enter Try.func11, Try.ntmps11
  go_upto_region 4 with fail
  have C1 := Aside0.mk (show Ck N (fun k => P k ∧ k < w.heap.size) (w.setCell ⟨g, 0, none⟩ (.int .i64 (now + 1))) g (now + 1) turns d from ⟨m, q, A, c, D, h.isq.ticked (now + 1), h.perm, h.hp, h.map.keep (Below.heap_setCell w ⟨g, 0, none⟩ _ m (fun e => h.isq.pg.2 e.symm)), h.nm, h.pm, GD.out⟩)
  have B1 := Aside0.mk (below_setB (Below.refl N w) (p := ⟨g, 0, none⟩) h.isq.ng (.int .i64 (now + 1)))
  have K1 := Aside0.mk ((Kept.refl w (fun k => P k ∧ k < w.heap.size)).setCell (p := ⟨g, 0, none⟩) (.inl h.isq.pg.1) (.int .i64 (now + 1)))
  have HNS := Aside0.mk h.isq.size
  have T1 := Aside0.mk (show TR d d (now + 1) [] from ⟨by simp, rfl, Nat.le_refl _⟩)
  clear zc0 zf0 zc1 zf1 zc2 zf2 zc3 zf3 h H hs hm htu GD b0 b1
  generalize w.setCell ⟨g, 0, none⟩ (.int .i64 (now + 1)) = w1 at C1 B1 K1 ⊢
  have O1 := Aside0.mk (show Kd.R Kd.string 9 w1 w.heap.size (fun k => w.heap.size ≤ k) (.slice none 0 0) [] from Kd.R_nil _ _ _ _ _)
  go_wp2_with fail
  go_loopg [3] (d.length + 1) (fun kq_ v3 w' => ∃ (d1 : List Du) (L : List ByteArray), Aside0 (kq_ = d1.length + 1) ∧ Aside0 (Ck N (fun k => P k ∧ k < w.heap.size) w' g (now + 1) turns d1) ∧ Aside0 (Kd.R Kd.string 9 w' w.heap.size (fun k => w.heap.size ≤ k) v3 L) ∧ Aside0 (TR d d1 (now + 1) L) ∧ Aside0 (Below N w w') ∧ Aside0 (Kept w w' (fun k => P k ∧ k < w.heap.size)))
  case atStart => exact ⟨d, [], ⟨rfl⟩, C1, O1, T1, B1, K1⟩
  case round =>
    obtain ⟨d1, L, HK, C2_, O2, T2, B2, K2⟩ := hrel
    clear C1 O1 T1 B1 K1
    generalize wr = w2 at C2_ O2 B2 K2 ⊢
    have hc2 := C2_.out
    clear q A c D m C2_
    obtain ⟨m, q, A, c, D, h⟩ := hc2
    have H := Aside0.mk h
    obtain ⟨AL, cL, eL⟩ := Kd.R_slice O2.out
    subst eL
    have HS2 := Aside0.mk (Nat.le_trans HNS.out B2.out.size)
    go_wp2_with fail
    by_cases hq : q.length = 0
    · have d0 : decide ((q.length : Int) > 0) = false := decide_eq_false (by omega)
      have d1_ : decide ((0 : Int) < (q.length : Int)) = false := decide_eq_false (by omega)
      have d2_ : decide (0 < q.length) = false := decide_eq_false (by omega)
      have d3_ : (0 < q.length) = False := eq_false (by omega)
      have HNO := Aside0.mk (show ∀ x ∈ d1, now + 1 < x.at_ from fun x hx => by have h1 := h.perm.length_eq; rw [hq] at h1; rw [List.eq_nil_of_length_eq_zero h1.symm] at hx; cases hx)
      clear hq h
      refine start_ (n := 22) (S := fun w' => w'.cell? ⟨g, 2, none⟩ = some (.slice A q.length c)) (ds := []) #[false, false, false, false, false, false, false, false, false, false, false, false, false, false, false, false, false, false, false, false, false, false] (by kernel_rfl) rfl rfl ((blk_cell (blk_drew H.out.isq.hg) 2).trans rfl) (fun hHeld => ?_)
      refine pure_ (i := 0) (N := some 17) (v := ?_) (a' := ?_) #[true, false, false, false, false, false, false, false, false, false, false, false, false, false, false, false, false, false, false, false, false, false] rfl rfl (by kernel_rfl) (fun _ _ _ h => h) (Or.inl ⟨by rfl, ?_⟩) ?_ ?_
      rotate_left
      · intro w'
        go_simp
        with_reducible rfl
      rotate_left
      · simp only [Act.put, List.setIfInBounds_toArray, List.set_cons_zero, List.set_cons_succ, i64_w, i32_w]
        rfl
      refine pure_ (i := 1) (N := some 18) (v := ?_) (a' := ?_) #[true, true, false, false, false, false, false, false, false, false, false, false, false, false, false, false, false, false, false, false, false, false] rfl rfl (by kernel_rfl) (fun _ _ _ h => h) (Or.inl ⟨by rfl, ?_⟩) ?_ ?_
      rotate_left
      · intro w'
        go_simp
        with_reducible rfl
      rotate_left
      · simp only [Act.put, List.setIfInBounds_toArray, List.set_cons_zero, List.set_cons_succ, i64_w, i32_w]
        rfl
      refine pure_ (i := 2) (N := some 19) (v := ?_) (a' := ?_) #[true, true, true, false, false, false, false, false, false, false, false, false, false, false, false, false, false, false, false, false, false, false] rfl rfl (by kernel_rfl) (fun _ _ _ h => h) (Or.inl ⟨by rfl, ?_⟩) ?_ ?_
      rotate_left
      · intro w'
        go_simp
        with_reducible rfl
      rotate_left
      · simp only [Act.put, List.setIfInBounds_toArray, List.set_cons_zero, List.set_cons_succ, i64_w, i32_w]
        rfl
      refine take_ (i := 3) (N := some 20) (v := ?_) (a' := ?_) #[true, true, true, true, false, false, false, false, false, false, false, false, false, false, false, false, false, false, false, false, false, false] rfl rfl (by kernel_rfl) (fun _ _ _ h => h) (Or.inl ⟨by rfl, ?_⟩) hHeld ?_ ?_
      rotate_left
      · intro w' s0
        go_simp
        with_reducible rfl
      rotate_left
      · simp only [Act.put, List.setIfInBounds_toArray, List.set_cons_zero, List.set_cons_succ, i64_w, i32_w]
        rfl
      refine pure_ (i := 4) (N := some 21) (v := ?_) (a' := ?_) #[true, true, true, true, true, false, false, false, false, false, false, false, false, false, false, false, false, false, false, false, false, false] rfl rfl (by kernel_rfl) (fun _ _ _ h => h) (Or.inl ⟨by rfl, ?_⟩) ?_ ?_
      rotate_left
      · intro w'
        go_simp
        with_reducible rfl
      rotate_left
      · simp only [Act.put, List.setIfInBounds_toArray, List.set_cons_zero, List.set_cons_succ, i64_w, i32_w]
        rfl
      refine pure_ (i := 5) (N := some 22) (v := ?_) (a' := ?_) #[true, true, true, true, true, true, false, false, false, false, false, false, false, false, false, false, false, false, false, false, false, false] rfl rfl (by kernel_rfl) (fun _ _ _ h => h) (Or.inl ⟨by rfl, ?_⟩) ?_ ?_
      rotate_left
      · intro w'
        go_simp
        with_reducible rfl
      rotate_left
      · simp only [Act.put, List.setIfInBounds_toArray, List.set_cons_zero, List.set_cons_succ, i64_w, i32_w]
        rfl
      refine pure_ (i := 6) (N := some 23) (v := ?_) (a' := ?_) #[true, true, true, true, true, true, true, false, false, false, false, false, false, false, false, false, false, false, false, false, false, false] rfl rfl (by kernel_rfl) (fun _ _ _ h => h) (Or.inl ⟨by rfl, ?_⟩) ?_ ?_
      rotate_left
      · intro w'
        go_simp
        with_reducible rfl
      rotate_left
      · simp only [Act.put, List.setIfInBounds_toArray, List.set_cons_zero, List.set_cons_succ, i64_w, i32_w]
        rfl
      refine pure_ (i := 7) (N := some 24) (v := undef) (a' := ?_) #[true, true, true, true, true, true, true, true, false, false, false, false, false, false, false, false, false, false, false, false, false, false] rfl rfl (by kernel_rfl) (fun _ _ _ h => h) (Or.inr ⟨by rfl, rfl⟩) ?_ ?_
      rotate_left
      · simp only [Act.put, List.setIfInBounds_toArray, List.set_cons_zero, List.set_cons_succ, i64_w, i32_w]
        rfl
      refine pure_ (i := 8) (N := some 25) (v := undef) (a' := ?_) #[true, true, true, true, true, true, true, true, true, false, false, false, false, false, false, false, false, false, false, false, false, false] rfl rfl (by kernel_rfl) (fun _ _ _ h => h) (Or.inr ⟨by rfl, rfl⟩) ?_ ?_
      rotate_left
      · simp only [Act.put, List.setIfInBounds_toArray, List.set_cons_zero, List.set_cons_succ, i64_w, i32_w]
        rfl
      refine pure_ (i := 9) (N := some 26) (v := undef) (a' := ?_) #[true, true, true, true, true, true, true, true, true, true, false, false, false, false, false, false, false, false, false, false, false, false] rfl rfl (by kernel_rfl) (fun _ _ _ h => h) (Or.inr ⟨by rfl, rfl⟩) ?_ ?_
      rotate_left
      · simp only [Act.put, List.setIfInBounds_toArray, List.set_cons_zero, List.set_cons_succ, i64_w, i32_w]
        rfl
      refine pure_ (i := 10) (N := some 27) (v := undef) (a' := ?_) #[true, true, true, true, true, true, true, true, true, true, true, false, false, false, false, false, false, false, false, false, false, false] rfl rfl (by kernel_rfl) (fun _ _ _ h => h) (Or.inr ⟨by rfl, rfl⟩) ?_ ?_
      rotate_left
      · simp only [Act.put, List.setIfInBounds_toArray, List.set_cons_zero, List.set_cons_succ, i64_w, i32_w]
        rfl
      refine pure_ (i := 11) (N := some 28) (v := undef) (a' := ?_) #[true, true, true, true, true, true, true, true, true, true, true, true, false, false, false, false, false, false, false, false, false, false] rfl rfl (by kernel_rfl) (fun _ _ _ h => h) (Or.inr ⟨by rfl, rfl⟩) ?_ ?_
      rotate_left
      · simp only [Act.put, List.setIfInBounds_toArray, List.set_cons_zero, List.set_cons_succ, i64_w, i32_w]
        rfl
      refine pure_ (i := 12) (N := some 29) (v := undef) (a' := ?_) #[true, true, true, true, true, true, true, true, true, true, true, true, true, false, false, false, false, false, false, false, false, false] rfl rfl (by kernel_rfl) (fun _ _ _ h => h) (Or.inr ⟨by rfl, rfl⟩) ?_ ?_
      rotate_left
      · simp only [Act.put, List.setIfInBounds_toArray, List.set_cons_zero, List.set_cons_succ, i64_w, i32_w]
        rfl
      refine pure_ (i := 13) (N := some 30) (v := undef) (a' := ?_) #[true, true, true, true, true, true, true, true, true, true, true, true, true, true, false, false, false, false, false, false, false, false] rfl rfl (by kernel_rfl) (fun _ _ _ h => h) (Or.inr ⟨by rfl, rfl⟩) ?_ ?_
      rotate_left
      · simp only [Act.put, List.setIfInBounds_toArray, List.set_cons_zero, List.set_cons_succ, i64_w, i32_w]
        rfl
      refine pure_ (i := 14) (N := some 31) (v := undef) (a' := ?_) #[true, true, true, true, true, true, true, true, true, true, true, true, true, true, true, false, false, false, false, false, false, false] rfl rfl (by kernel_rfl) (fun _ _ _ h => h) (Or.inr ⟨by rfl, rfl⟩) ?_ ?_
      rotate_left
      · simp only [Act.put, List.setIfInBounds_toArray, List.set_cons_zero, List.set_cons_succ, i64_w, i32_w]
        rfl
      refine pure_ (i := 15) (N := some 32) (v := undef) (a' := ?_) #[true, true, true, true, true, true, true, true, true, true, true, true, true, true, true, true, false, false, false, false, false, false] rfl rfl (by kernel_rfl) (fun _ _ _ h => h) (Or.inr ⟨by rfl, rfl⟩) ?_ ?_
      rotate_left
      · simp only [Act.put, List.setIfInBounds_toArray, List.set_cons_zero, List.set_cons_succ, i64_w, i32_w]
        rfl
      refine pure_ (i := 16) (N := some 33) (v := undef) (a' := ?_) #[true, true, true, true, true, true, true, true, true, true, true, true, true, true, true, true, true, false, false, false, false, false] rfl rfl (by kernel_rfl) (fun _ _ _ h => h) (Or.inr ⟨by rfl, rfl⟩) ?_ ?_
      rotate_left
      · simp only [Act.put, List.setIfInBounds_toArray, List.set_cons_zero, List.set_cons_succ, i64_w, i32_w]
        rfl
      refine pure_ (i := 17) (N := some 34) (v := undef) (a' := ?_) #[true, true, true, true, true, true, true, true, true, true, true, true, true, true, true, true, true, true, false, false, false, false] rfl rfl (by kernel_rfl) (fun _ _ _ h => h) (Or.inr ⟨by rfl, rfl⟩) ?_ ?_
      rotate_left
      · simp only [Act.put, List.setIfInBounds_toArray, List.set_cons_zero, List.set_cons_succ, i64_w, i32_w]
        rfl
      refine pure_ (i := 18) (N := some 35) (v := undef) (a' := ?_) #[true, true, true, true, true, true, true, true, true, true, true, true, true, true, true, true, true, true, true, false, false, false] rfl rfl (by kernel_rfl) (fun _ _ _ h => h) (Or.inr ⟨by rfl, rfl⟩) ?_ ?_
      rotate_left
      · simp only [Act.put, List.setIfInBounds_toArray, List.set_cons_zero, List.set_cons_succ, i64_w, i32_w]
        rfl
      refine pure_ (i := 19) (N := some 36) (v := undef) (a' := ?_) #[true, true, true, true, true, true, true, true, true, true, true, true, true, true, true, true, true, true, true, true, false, false] rfl rfl (by kernel_rfl) (fun _ _ _ h => h) (Or.inr ⟨by rfl, rfl⟩) ?_ ?_
      rotate_left
      · simp only [Act.put, List.setIfInBounds_toArray, List.set_cons_zero, List.set_cons_succ, i64_w, i32_w]
        rfl
      refine pure_ (i := 20) (N := some 37) (v := undef) (a' := ?_) #[true, true, true, true, true, true, true, true, true, true, true, true, true, true, true, true, true, true, true, true, true, false] rfl rfl (by kernel_rfl) (fun _ _ _ h => h) (Or.inr ⟨by rfl, rfl⟩) ?_ ?_
      rotate_left
      · simp only [Act.put, List.setIfInBounds_toArray, List.set_cons_zero, List.set_cons_succ, i64_w, i32_w]
        rfl
      refine pure_ (i := 21) (N := some 38) (v := ?_) (a' := ?_) #[true, true, true, true, true, true, true, true, true, true, true, true, true, true, true, true, true, true, true, true, true, true] rfl rfl (by kernel_rfl) (fun _ _ _ h => h) (Or.inl ⟨by rfl, ?_⟩) ?_ ?_
      rotate_left
      · intro w'
        go_simp
        with_reducible rfl
      rotate_left
      · simp only [Act.put, List.setIfInBounds_toArray, List.set_cons_zero, List.set_cons_succ, i64_w, i32_w]
        rfl
      refine done_ (by kernel_rfl) ?_
      go_wp2_with fail
      go_ret
      obtain ⟨e1, e2⟩ := T2.out.done HNO.out
      refine ⟨⟨_, rfl, ?_⟩, ?_, below_drew B2.out, K2.out.drew⟩
      · rw [← e1]; exact R_drew_ O2.out
      · rw [← e2]; exact Ck.drew (P := fun k => P k ∧ k < w.heap.size) ⟨m, q, _, c, D, H.out⟩
    obtain ⟨r, eA, hr0, hr1⟩ := row_at h.isq.row (by omega)
    obtain ⟨ad, had⟩ : ∃ ad, ad = (⟨r, 0, none⟩ : Addr) := ⟨_, rfl⟩
    rw [← had] at eA
    subst eA
    clear had hr0 hr1
    have d0 : decide ((q.length : Int) > 0) = true := decide_eq_true (by omega)
    have d1_ : decide ((0 : Int) < (q.length : Int)) = true := decide_eq_true (by omega)
    have d2_ : decide (0 < q.length) = true := decide_eq_true (by omega)
    have d3_ : (0 < q.length) = True := eq_true (by omega)
    have d4_ : ((0 : Int) < (q.length : Int)) = True := eq_true (by omega)
    have hq0 : 0 < q.length := by omega
    have HQ0 := Aside0.mk hq0
    have s0 := h.isq.cell hq0
    have s1 := (h.isq.due 0 hq0).1
    obtain ⟨x, hx⟩ : ∃ x, x = nth q 0 := ⟨_, rfl⟩
    rw [← hx] at s0 s1
    unfold ptr at s0
    have HX := Aside0.mk hx
    have HXM := Aside0.mk (show x ∈ d1 by rw [hx]; exact h.perm.mem_iff.1 (nth_mem hq0))
    have HLE := Aside0.mk (show ∀ y ∈ d1, key x ≤ key y by rw [hx]; exact first_least h.hp h.perm)
    have HXG := Aside0.mk (h.good.all x HXM.out)
    have s0' : w2.cell? ad = some (.pointer (some ⟨x.bk, 0, none⟩)) := by simpa [Addr.add] using s0
    have HS0 := Aside0.mk s0'; have HS1 := Aside0.mk s1
    clear hx s0 s1 hq hq0 h s0'
    by_cases ha : x.at_ ≤ now + 1
    rotate_left
    · have e1_ : decide (x.at_ ≤ now + 1) = false := decide_eq_false ha
      have HNO := Aside0.mk (show ∀ y ∈ d1, now + 1 < y.at_ from fun y hy => by
        have h1 := H.out.good.all y hy
        have := key_at (x := x) (y := y) (by have := HXG.out; have := HTU.out; omega) (by have := HTU.out; omega) (HLE.out y hy)
        omega)
      clear ha
      refine start_ (n := 22) (S := fun w' => w'.cell? ⟨g, 2, none⟩ = some (.slice (some ad) q.length c) ∧ w'.cell? ad = some (.pointer (some ⟨x.bk, 0, none⟩)) ∧ w'.cell? ⟨x.bk, 1, none⟩ = some (.int .i64 x.at_) ∧ w'.cell? ⟨g, 0, none⟩ = some (.int .i64 (now + 1))) (ds := []) #[false, false, false, false, false, false, false, false, false, false, false, false, false, false, false, false, false, false, false, false, false, false] (by kernel_rfl) rfl rfl ⟨(blk_cell (blk_drew H.out.isq.hg) 2).trans rfl, HS0.out, (blk_cell (blk_drew HS1.out) 1).trans rfl, (blk_cell (blk_drew H.out.isq.hg) 0).trans rfl⟩ (fun hHeld => ?_)
      refine pure_ (i := 0) (N := some 17) (v := ?_) (a' := ?_) #[true, false, false, false, false, false, false, false, false, false, false, false, false, false, false, false, false, false, false, false, false, false] rfl rfl (by kernel_rfl) (fun _ _ _ h => h) (Or.inl ⟨by rfl, ?_⟩) ?_ ?_
      rotate_left
      · intro w'
        go_simp
        with_reducible rfl
      rotate_left
      · simp only [Act.put, List.setIfInBounds_toArray, List.set_cons_zero, List.set_cons_succ, i64_w, i32_w]
        rfl
      refine pure_ (i := 1) (N := some 18) (v := ?_) (a' := ?_) #[true, true, false, false, false, false, false, false, false, false, false, false, false, false, false, false, false, false, false, false, false, false] rfl rfl (by kernel_rfl) (fun _ _ _ h => h) (Or.inl ⟨by rfl, ?_⟩) ?_ ?_
      rotate_left
      · intro w'
        go_simp
        with_reducible rfl
      rotate_left
      · simp only [Act.put, List.setIfInBounds_toArray, List.set_cons_zero, List.set_cons_succ, i64_w, i32_w]
        rfl
      refine pure_ (i := 2) (N := some 19) (v := ?_) (a' := ?_) #[true, true, true, false, false, false, false, false, false, false, false, false, false, false, false, false, false, false, false, false, false, false] rfl rfl (by kernel_rfl) (fun _ _ _ h => h) (Or.inl ⟨by rfl, ?_⟩) ?_ ?_
      rotate_left
      · intro w'
        go_simp
        with_reducible rfl
      rotate_left
      · simp only [Act.put, List.setIfInBounds_toArray, List.set_cons_zero, List.set_cons_succ, i64_w, i32_w]
        rfl
      refine take_ (i := 3) (N := some 20) (v := ?_) (a' := ?_) #[true, true, true, true, false, false, false, false, false, false, false, false, false, false, false, false, false, false, false, false, false, false] rfl rfl (by kernel_rfl) (fun _ _ _ h => h) (Or.inl ⟨by rfl, ?_⟩) hHeld ?_ ?_
      rotate_left
      · rintro w' ⟨s0, s1, s2, s3⟩
        go_simp
        with_reducible rfl
      rotate_left
      · simp only [Act.put, List.setIfInBounds_toArray, List.set_cons_zero, List.set_cons_succ, i64_w, i32_w]
        rfl
      refine pure_ (i := 4) (N := some 21) (v := ?_) (a' := ?_) #[true, true, true, true, true, false, false, false, false, false, false, false, false, false, false, false, false, false, false, false, false, false] rfl rfl (by kernel_rfl) (fun _ _ _ h => h) (Or.inl ⟨by rfl, ?_⟩) ?_ ?_
      rotate_left
      · intro w'
        go_simp
        with_reducible rfl
      rotate_left
      · simp only [Act.put, List.setIfInBounds_toArray, List.set_cons_zero, List.set_cons_succ, i64_w, i32_w]
        rfl
      refine pure_ (i := 5) (N := some 22) (v := ?_) (a' := ?_) #[true, true, true, true, true, true, false, false, false, false, false, false, false, false, false, false, false, false, false, false, false, false] rfl rfl (by kernel_rfl) (fun _ _ _ h => h) (Or.inl ⟨by rfl, ?_⟩) ?_ ?_
      rotate_left
      · intro w'
        go_simp
        with_reducible rfl
      rotate_left
      · simp only [Act.put, List.setIfInBounds_toArray, List.set_cons_zero, List.set_cons_succ, i64_w, i32_w]
        rfl
      refine pure_ (i := 6) (N := some 23) (v := ?_) (a' := ?_) #[true, true, true, true, true, true, true, false, false, false, false, false, false, false, false, false, false, false, false, false, false, false] rfl rfl (by kernel_rfl) (fun _ _ _ h => h) (Or.inl ⟨by rfl, ?_⟩) ?_ ?_
      rotate_left
      · intro w'
        go_simp
        with_reducible rfl
      rotate_left
      · simp only [Act.put, List.setIfInBounds_toArray, List.set_cons_zero, List.set_cons_succ, i64_w, i32_w]
        rfl
      refine pure_ (i := 7) (N := some 24) (v := ?_) (a' := ?_) #[true, true, true, true, true, true, true, true, false, false, false, false, false, false, false, false, false, false, false, false, false, false] rfl rfl (by kernel_rfl) (fun _ _ _ h => h) (Or.inl ⟨by rfl, ?_⟩) ?_ ?_
      rotate_left
      · intro w'
        go_simp
        with_reducible rfl
      rotate_left
      · simp only [Act.put, List.setIfInBounds_toArray, List.set_cons_zero, List.set_cons_succ, i64_w, i32_w]
        rfl
      refine pure_ (i := 8) (N := some 25) (v := ?_) (a' := ?_) #[true, true, true, true, true, true, true, true, true, false, false, false, false, false, false, false, false, false, false, false, false, false] rfl rfl (by kernel_rfl) (fun _ _ _ h => h) (Or.inl ⟨by rfl, ?_⟩) ?_ ?_
      rotate_left
      · intro w'
        go_simp
        with_reducible rfl
      rotate_left
      · simp only [Act.put, List.setIfInBounds_toArray, List.set_cons_zero, List.set_cons_succ, i64_w, i32_w]
        rfl
      refine pure_ (i := 9) (N := some 26) (v := ?_) (a' := ?_) #[true, true, true, true, true, true, true, true, true, true, false, false, false, false, false, false, false, false, false, false, false, false] rfl rfl (by kernel_rfl) (fun _ _ _ h => h) (Or.inl ⟨by rfl, ?_⟩) ?_ ?_
      rotate_left
      · intro w'
        go_simp
        with_reducible rfl
      rotate_left
      · simp only [Act.put, List.setIfInBounds_toArray, List.set_cons_zero, List.set_cons_succ, i64_w, i32_w]
        rfl
      refine pure_ (i := 16) (N := some 33) (v := ?_) (a' := ?_) #[true, true, true, true, true, true, true, true, true, true, false, false, false, false, false, false, true, false, false, false, false, false] rfl rfl (by kernel_rfl) (fun _ _ _ h => h) (Or.inl ⟨by rfl, ?_⟩) ?_ ?_
      rotate_left
      · intro w'
        go_simp
        with_reducible rfl
      rotate_left
      · simp only [Act.put, List.setIfInBounds_toArray, List.set_cons_zero, List.set_cons_succ, i64_w, i32_w]
        rfl
      refine pure_ (i := 17) (N := some 34) (v := ?_) (a' := ?_) #[true, true, true, true, true, true, true, true, true, true, false, false, false, false, false, false, true, true, false, false, false, false] rfl rfl (by kernel_rfl) (fun _ _ _ h => h) (Or.inl ⟨by rfl, ?_⟩) ?_ ?_
      rotate_left
      · intro w'
        go_simp
        with_reducible rfl
      rotate_left
      · simp only [Act.put, List.setIfInBounds_toArray, List.set_cons_zero, List.set_cons_succ, i64_w, i32_w]
        rfl
      refine pure_ (i := 18) (N := some 35) (v := ?_) (a' := ?_) #[true, true, true, true, true, true, true, true, true, true, false, false, false, false, false, false, true, true, true, false, false, false] rfl rfl (by kernel_rfl) (fun _ _ _ h => h) (Or.inl ⟨by rfl, ?_⟩) ?_ ?_
      rotate_left
      · intro w'
        go_simp
        with_reducible rfl
      rotate_left
      · simp only [Act.put, List.setIfInBounds_toArray, List.set_cons_zero, List.set_cons_succ, i64_w, i32_w]
        rfl
      refine take_ (i := 10) (N := some 27) (v := ?_) (a' := ?_) #[true, true, true, true, true, true, true, true, true, true, true, false, false, false, false, false, true, true, true, false, false, false] rfl rfl (by kernel_rfl) (fun _ _ _ h => h) (Or.inl ⟨by rfl, ?_⟩) hHeld ?_ ?_
      rotate_left
      · rintro w' ⟨s0, s1, s2, s3⟩
        go_simp
        with_reducible rfl
      rotate_left
      · simp only [Act.put, List.setIfInBounds_toArray, List.set_cons_zero, List.set_cons_succ, i64_w, i32_w]
        rfl
      refine pure_ (i := 11) (N := some 28) (v := ?_) (a' := ?_) #[true, true, true, true, true, true, true, true, true, true, true, true, false, false, false, false, true, true, true, false, false, false] rfl rfl (by kernel_rfl) (fun _ _ _ h => h) (Or.inl ⟨by rfl, ?_⟩) ?_ ?_
      rotate_left
      · intro w'
        go_simp
        with_reducible rfl
      rotate_left
      · simp only [Act.put, List.setIfInBounds_toArray, List.set_cons_zero, List.set_cons_succ, i64_w, i32_w]
        rfl
      refine take_ (i := 12) (N := some 29) (v := ?_) (a' := ?_) #[true, true, true, true, true, true, true, true, true, true, true, true, true, false, false, false, true, true, true, false, false, false] rfl rfl (by kernel_rfl) (fun _ _ _ h => h) (Or.inl ⟨by rfl, ?_⟩) hHeld ?_ ?_
      rotate_left
      · rintro w' ⟨s0, s1, s2, s3⟩
        go_simp
        with_reducible rfl
      rotate_left
      · simp only [Act.put, List.setIfInBounds_toArray, List.set_cons_zero, List.set_cons_succ, i64_w, i32_w]
        rfl
      refine pure_ (i := 13) (N := some 30) (v := ?_) (a' := ?_) #[true, true, true, true, true, true, true, true, true, true, true, true, true, true, false, false, true, true, true, false, false, false] rfl rfl (by kernel_rfl) (fun _ _ _ h => h) (Or.inl ⟨by rfl, ?_⟩) ?_ ?_
      rotate_left
      · intro w'
        go_simp
        with_reducible rfl
      rotate_left
      · simp only [Act.put, List.setIfInBounds_toArray, List.set_cons_zero, List.set_cons_succ, i64_w, i32_w]
        rfl
      refine pure_ (i := 14) (N := some 31) (v := ?_) (a' := ?_) #[true, true, true, true, true, true, true, true, true, true, true, true, true, true, true, false, true, true, true, false, false, false] rfl rfl (by kernel_rfl) (fun _ _ _ h => h) (Or.inl ⟨by rfl, ?_⟩) ?_ ?_
      rotate_left
      · intro w'
        go_simp
        with_reducible rfl
      rotate_left
      · simp only [Act.put, List.setIfInBounds_toArray, List.set_cons_zero, List.set_cons_succ, i64_w, i32_w]
        rfl
      refine take_ (i := 15) (N := some 32) (v := ?_) (a' := ?_) #[true, true, true, true, true, true, true, true, true, true, true, true, true, true, true, true, true, true, true, false, false, false] rfl rfl (by kernel_rfl) (fun _ _ _ h => h) (Or.inl ⟨by rfl, ?_⟩) hHeld ?_ ?_
      rotate_left
      · rintro w' ⟨s0, s1, s2, s3⟩
        go_simp
        with_reducible rfl
      rotate_left
      · simp only [Act.put, List.setIfInBounds_toArray, List.set_cons_zero, List.set_cons_succ, i64_w, i32_w]
        rfl
      refine take_ (i := 19) (N := some 36) (v := ?_) (a' := ?_) #[true, true, true, true, true, true, true, true, true, true, true, true, true, true, true, true, true, true, true, true, false, false] rfl rfl (by kernel_rfl) (fun _ _ _ h => h) (Or.inl ⟨by rfl, ?_⟩) hHeld ?_ ?_
      rotate_left
      · rintro w' ⟨s0, s1, s2, s3⟩
        go_simp
        with_reducible rfl
      rotate_left
      · simp only [Act.put, List.setIfInBounds_toArray, List.set_cons_zero, List.set_cons_succ, i64_w, i32_w]
        rfl
      refine pure_ (i := 20) (N := some 37) (v := ?_) (a' := ?_) #[true, true, true, true, true, true, true, true, true, true, true, true, true, true, true, true, true, true, true, true, true, false] rfl rfl (by kernel_rfl) (fun _ _ _ h => h) (Or.inl ⟨by rfl, ?_⟩) ?_ ?_
      rotate_left
      · intro w'
        go_simp
        with_reducible rfl
      rotate_left
      · simp only [Act.put, List.setIfInBounds_toArray, List.set_cons_zero, List.set_cons_succ, i64_w, i32_w]
        rfl
      refine pure_ (i := 21) (N := some 38) (v := ?_) (a' := ?_) #[true, true, true, true, true, true, true, true, true, true, true, true, true, true, true, true, true, true, true, true, true, true] rfl rfl (by kernel_rfl) (fun _ _ _ h => h) (Or.inl ⟨by rfl, ?_⟩) ?_ ?_
      rotate_left
      · intro w'
        go_simp
        with_reducible rfl
      rotate_left
      · simp only [Act.put, List.setIfInBounds_toArray, List.set_cons_zero, List.set_cons_succ, i64_w, i32_w]
        rfl
      refine done_ (by kernel_rfl) ?_
      go_wp2_with fail
      go_ret
      obtain ⟨e1, e2⟩ := T2.out.done HNO.out
      refine ⟨⟨_, rfl, ?_⟩, ?_, below_drew B2.out, K2.out.drew⟩
      · rw [← e1]; exact R_drew_ O2.out
      · rw [← e2]; exact Ck.drew (P := fun k => P k ∧ k < w.heap.size) ⟨m, q, _, c, D, H.out⟩
    have e1_ : decide (x.at_ ≤ now + 1) = true := decide_eq_true ha
    have HA := Aside0.mk ha
    clear ha
    refine start_ (n := 22) (S := fun w' => w'.cell? ⟨g, 2, none⟩ = some (.slice (some ad) q.length c) ∧ w'.cell? ad = some (.pointer (some ⟨x.bk, 0, none⟩)) ∧ w'.cell? ⟨x.bk, 1, none⟩ = some (.int .i64 x.at_) ∧ w'.cell? ⟨g, 0, none⟩ = some (.int .i64 (now + 1))) (ds := []) #[false, false, false, false, false, false, false, false, false, false, false, false, false, false, false, false, false, false, false, false, false, false] (by kernel_rfl) rfl rfl ⟨(blk_cell (blk_drew H.out.isq.hg) 2).trans rfl, HS0.out, (blk_cell (blk_drew HS1.out) 1).trans rfl, (blk_cell (blk_drew H.out.isq.hg) 0).trans rfl⟩ (fun hHeld => ?_)
    refine pure_ (i := 0) (N := some 17) (v := ?_) (a' := ?_) #[true, false, false, false, false, false, false, false, false, false, false, false, false, false, false, false, false, false, false, false, false, false] rfl rfl (by kernel_rfl) (fun _ _ _ h => h) (Or.inl ⟨by rfl, ?_⟩) ?_ ?_
    rotate_left
    · intro w'
      go_simp
      with_reducible rfl
    rotate_left
    · simp only [Act.put, List.setIfInBounds_toArray, List.set_cons_zero, List.set_cons_succ, i64_w, i32_w]
      rfl
    refine pure_ (i := 1) (N := some 18) (v := ?_) (a' := ?_) #[true, true, false, false, false, false, false, false, false, false, false, false, false, false, false, false, false, false, false, false, false, false] rfl rfl (by kernel_rfl) (fun _ _ _ h => h) (Or.inl ⟨by rfl, ?_⟩) ?_ ?_
    rotate_left
    · intro w'
      go_simp
      with_reducible rfl
    rotate_left
    · simp only [Act.put, List.setIfInBounds_toArray, List.set_cons_zero, List.set_cons_succ, i64_w, i32_w]
      rfl
    refine pure_ (i := 2) (N := some 19) (v := ?_) (a' := ?_) #[true, true, true, false, false, false, false, false, false, false, false, false, false, false, false, false, false, false, false, false, false, false] rfl rfl (by kernel_rfl) (fun _ _ _ h => h) (Or.inl ⟨by rfl, ?_⟩) ?_ ?_
    rotate_left
    · intro w'
      go_simp
      with_reducible rfl
    rotate_left
    · simp only [Act.put, List.setIfInBounds_toArray, List.set_cons_zero, List.set_cons_succ, i64_w, i32_w]
      rfl
    refine take_ (i := 3) (N := some 20) (v := ?_) (a' := ?_) #[true, true, true, true, false, false, false, false, false, false, false, false, false, false, false, false, false, false, false, false, false, false] rfl rfl (by kernel_rfl) (fun _ _ _ h => h) (Or.inl ⟨by rfl, ?_⟩) hHeld ?_ ?_
    rotate_left
    · rintro w' ⟨s0, s1, s2, s3⟩
      go_simp
      with_reducible rfl
    rotate_left
    · simp only [Act.put, List.setIfInBounds_toArray, List.set_cons_zero, List.set_cons_succ, i64_w, i32_w]
      rfl
    refine pure_ (i := 4) (N := some 21) (v := ?_) (a' := ?_) #[true, true, true, true, true, false, false, false, false, false, false, false, false, false, false, false, false, false, false, false, false, false] rfl rfl (by kernel_rfl) (fun _ _ _ h => h) (Or.inl ⟨by rfl, ?_⟩) ?_ ?_
    rotate_left
    · intro w'
      go_simp
      with_reducible rfl
    rotate_left
    · simp only [Act.put, List.setIfInBounds_toArray, List.set_cons_zero, List.set_cons_succ, i64_w, i32_w]
      rfl
    refine pure_ (i := 5) (N := some 22) (v := ?_) (a' := ?_) #[true, true, true, true, true, true, false, false, false, false, false, false, false, false, false, false, false, false, false, false, false, false] rfl rfl (by kernel_rfl) (fun _ _ _ h => h) (Or.inl ⟨by rfl, ?_⟩) ?_ ?_
    rotate_left
    · intro w'
      go_simp
      with_reducible rfl
    rotate_left
    · simp only [Act.put, List.setIfInBounds_toArray, List.set_cons_zero, List.set_cons_succ, i64_w, i32_w]
      rfl
    refine pure_ (i := 6) (N := some 23) (v := ?_) (a' := ?_) #[true, true, true, true, true, true, true, false, false, false, false, false, false, false, false, false, false, false, false, false, false, false] rfl rfl (by kernel_rfl) (fun _ _ _ h => h) (Or.inl ⟨by rfl, ?_⟩) ?_ ?_
    rotate_left
    · intro w'
      go_simp
      with_reducible rfl
    rotate_left
    · simp only [Act.put, List.setIfInBounds_toArray, List.set_cons_zero, List.set_cons_succ, i64_w, i32_w]
      rfl
    refine pure_ (i := 7) (N := some 24) (v := ?_) (a' := ?_) #[true, true, true, true, true, true, true, true, false, false, false, false, false, false, false, false, false, false, false, false, false, false] rfl rfl (by kernel_rfl) (fun _ _ _ h => h) (Or.inl ⟨by rfl, ?_⟩) ?_ ?_
    rotate_left
    · intro w'
      go_simp
      with_reducible rfl
    rotate_left
    · simp only [Act.put, List.setIfInBounds_toArray, List.set_cons_zero, List.set_cons_succ, i64_w, i32_w]
      rfl
    refine pure_ (i := 8) (N := some 25) (v := ?_) (a' := ?_) #[true, true, true, true, true, true, true, true, true, false, false, false, false, false, false, false, false, false, false, false, false, false] rfl rfl (by kernel_rfl) (fun _ _ _ h => h) (Or.inl ⟨by rfl, ?_⟩) ?_ ?_
    rotate_left
    · intro w'
      go_simp
      with_reducible rfl
    rotate_left
    · simp only [Act.put, List.setIfInBounds_toArray, List.set_cons_zero, List.set_cons_succ, i64_w, i32_w]
      rfl
    refine pure_ (i := 9) (N := some 26) (v := ?_) (a' := ?_) #[true, true, true, true, true, true, true, true, true, true, false, false, false, false, false, false, false, false, false, false, false, false] rfl rfl (by kernel_rfl) (fun _ _ _ h => h) (Or.inl ⟨by rfl, ?_⟩) ?_ ?_
    rotate_left
    · intro w'
      go_simp
      with_reducible rfl
    rotate_left
    · simp only [Act.put, List.setIfInBounds_toArray, List.set_cons_zero, List.set_cons_succ, i64_w, i32_w]
      rfl
    refine pure_ (i := 16) (N := some 33) (v := ?_) (a' := ?_) #[true, true, true, true, true, true, true, true, true, true, false, false, false, false, false, false, true, false, false, false, false, false] rfl rfl (by kernel_rfl) (fun _ _ _ h => h) (Or.inl ⟨by rfl, ?_⟩) ?_ ?_
    rotate_left
    · intro w'
      go_simp
      with_reducible rfl
    rotate_left
    · simp only [Act.put, List.setIfInBounds_toArray, List.set_cons_zero, List.set_cons_succ, i64_w, i32_w]
      rfl
    refine pure_ (i := 17) (N := some 34) (v := ?_) (a' := ?_) #[true, true, true, true, true, true, true, true, true, true, false, false, false, false, false, false, true, true, false, false, false, false] rfl rfl (by kernel_rfl) (fun _ _ _ h => h) (Or.inl ⟨by rfl, ?_⟩) ?_ ?_
    rotate_left
    · intro w'
      go_simp
      with_reducible rfl
    rotate_left
    · simp only [Act.put, List.setIfInBounds_toArray, List.set_cons_zero, List.set_cons_succ, i64_w, i32_w]
      rfl
    refine pure_ (i := 18) (N := some 35) (v := ?_) (a' := ?_) #[true, true, true, true, true, true, true, true, true, true, false, false, false, false, false, false, true, true, true, false, false, false] rfl rfl (by kernel_rfl) (fun _ _ _ h => h) (Or.inl ⟨by rfl, ?_⟩) ?_ ?_
    rotate_left
    · intro w'
      go_simp
      with_reducible rfl
    rotate_left
    · simp only [Act.put, List.setIfInBounds_toArray, List.set_cons_zero, List.set_cons_succ, i64_w, i32_w]
      rfl
    refine take_ (i := 10) (N := some 27) (v := ?_) (a' := ?_) #[true, true, true, true, true, true, true, true, true, true, true, false, false, false, false, false, true, true, true, false, false, false] rfl rfl (by kernel_rfl) (fun _ _ _ h => h) (Or.inl ⟨by rfl, ?_⟩) hHeld ?_ ?_
    rotate_left
    · rintro w' ⟨s0, s1, s2, s3⟩
      go_simp
      with_reducible rfl
    rotate_left
    · simp only [Act.put, List.setIfInBounds_toArray, List.set_cons_zero, List.set_cons_succ, i64_w, i32_w]
      rfl
    refine pure_ (i := 11) (N := some 28) (v := ?_) (a' := ?_) #[true, true, true, true, true, true, true, true, true, true, true, true, false, false, false, false, true, true, true, false, false, false] rfl rfl (by kernel_rfl) (fun _ _ _ h => h) (Or.inl ⟨by rfl, ?_⟩) ?_ ?_
    rotate_left
    · intro w'
      go_simp
      with_reducible rfl
    rotate_left
    · simp only [Act.put, List.setIfInBounds_toArray, List.set_cons_zero, List.set_cons_succ, i64_w, i32_w]
      rfl
    refine take_ (i := 12) (N := some 29) (v := ?_) (a' := ?_) #[true, true, true, true, true, true, true, true, true, true, true, true, true, false, false, false, true, true, true, false, false, false] rfl rfl (by kernel_rfl) (fun _ _ _ h => h) (Or.inl ⟨by rfl, ?_⟩) hHeld ?_ ?_
    rotate_left
    · rintro w' ⟨s0, s1, s2, s3⟩
      go_simp
      with_reducible rfl
    rotate_left
    · simp only [Act.put, List.setIfInBounds_toArray, List.set_cons_zero, List.set_cons_succ, i64_w, i32_w]
      rfl
    refine pure_ (i := 13) (N := some 30) (v := ?_) (a' := ?_) #[true, true, true, true, true, true, true, true, true, true, true, true, true, true, false, false, true, true, true, false, false, false] rfl rfl (by kernel_rfl) (fun _ _ _ h => h) (Or.inl ⟨by rfl, ?_⟩) ?_ ?_
    rotate_left
    · intro w'
      go_simp
      with_reducible rfl
    rotate_left
    · simp only [Act.put, List.setIfInBounds_toArray, List.set_cons_zero, List.set_cons_succ, i64_w, i32_w]
      rfl
    refine pure_ (i := 14) (N := some 31) (v := ?_) (a' := ?_) #[true, true, true, true, true, true, true, true, true, true, true, true, true, true, true, false, true, true, true, false, false, false] rfl rfl (by kernel_rfl) (fun _ _ _ h => h) (Or.inl ⟨by rfl, ?_⟩) ?_ ?_
    rotate_left
    · intro w'
      go_simp
      with_reducible rfl
    rotate_left
    · simp only [Act.put, List.setIfInBounds_toArray, List.set_cons_zero, List.set_cons_succ, i64_w, i32_w]
      rfl
    refine take_ (i := 15) (N := some 32) (v := ?_) (a' := ?_) #[true, true, true, true, true, true, true, true, true, true, true, true, true, true, true, true, true, true, true, false, false, false] rfl rfl (by kernel_rfl) (fun _ _ _ h => h) (Or.inl ⟨by rfl, ?_⟩) hHeld ?_ ?_
    rotate_left
    · rintro w' ⟨s0, s1, s2, s3⟩
      go_simp
      with_reducible rfl
    rotate_left
    · simp only [Act.put, List.setIfInBounds_toArray, List.set_cons_zero, List.set_cons_succ, i64_w, i32_w]
      rfl
    refine take_ (i := 19) (N := some 36) (v := ?_) (a' := ?_) #[true, true, true, true, true, true, true, true, true, true, true, true, true, true, true, true, true, true, true, true, false, false] rfl rfl (by kernel_rfl) (fun _ _ _ h => h) (Or.inl ⟨by rfl, ?_⟩) hHeld ?_ ?_
    rotate_left
    · rintro w' ⟨s0, s1, s2, s3⟩
      go_simp
      with_reducible rfl
    rotate_left
    · simp only [Act.put, List.setIfInBounds_toArray, List.set_cons_zero, List.set_cons_succ, i64_w, i32_w]
      rfl
    refine pure_ (i := 20) (N := some 37) (v := ?_) (a' := ?_) #[true, true, true, true, true, true, true, true, true, true, true, true, true, true, true, true, true, true, true, true, true, false] rfl rfl (by kernel_rfl) (fun _ _ _ h => h) (Or.inl ⟨by rfl, ?_⟩) ?_ ?_
    rotate_left
    · intro w'
      go_simp
      with_reducible rfl
    rotate_left
    · simp only [Act.put, List.setIfInBounds_toArray, List.set_cons_zero, List.set_cons_succ, i64_w, i32_w]
      rfl
    refine pure_ (i := 21) (N := some 38) (v := ?_) (a' := ?_) #[true, true, true, true, true, true, true, true, true, true, true, true, true, true, true, true, true, true, true, true, true, true] rfl rfl (by kernel_rfl) (fun _ _ _ h => h) (Or.inl ⟨by rfl, ?_⟩) ?_ ?_
    rotate_left
    · intro w'
      go_simp
      with_reducible rfl
    rotate_left
    · simp only [Act.put, List.setIfInBounds_toArray, List.set_cons_zero, List.set_cons_succ, i64_w, i32_w]
      rfl
    refine done_ (by kernel_rfl) ?_
    go_wp2_with fail
    refine (pop_calls (w := w2.drew) H.out.isq.drew HQ0.out H.out.hp (H.out.good.tok (Int.lt_of_lt_of_le HTU.out (by decide)) H.out.perm) (by rw [H.out.perm.length_eq]; exact H.out.good.len)).mono ?_
    rintro y w3 ⟨⟨he, q3, hI, hp, hh, hbk⟩, hb, hk⟩
    rw [← HX.out] at he hp hbk
    subst he
    have Q3 := Aside0.mk hI; have HP3 := Aside0.mk hp; have HH3 := Aside0.mk hh; have X3 := Aside0.mk hbk
    have B3 := Aside0.mk ((below_drew B2.out).trans hb); have K3 := Aside0.mk (K2.out.drew.then_ hk (fun k hk => .inl hk.1)); have KM := Aside0.mk hk
    have M3 := Aside0.mk ((H.out.map.keep (w' := w2.drew) rfl).keep (hk.2 m H.out.map.lt (fun q => q.2 rfl)))
    have O3 := Aside0.mk (Kd.R_mono (Kd.R_kept (Kd.R_bound (R_drew_ O2.out)) hk (fun k q e => Nat.not_lt.mpr q.1 e.1.2)) (fun k q => q.1))
    have HS3 := Aside0.mk (Nat.le_trans HNS.out B3.out.size)
    clear hI hp hh hbk hb hk HS0 HS1 B2 K2 O2 hHeld
    obtain ⟨w4, hdel, hown4, hturn4⟩ := (show w3.drew.ownsMap Try.prog 9 RB m d1.length D from M3.out.own).drop key9 Try.underlying55 (keyOf9 HXG.out.2.2.2.2) 0
    have HO4 := Aside0.mk hown4; have GR4 := Aside0.mk hturn4.grown
    clear hown4 hturn4
    go_wp2_with fail
    refine start_ (n := 9) (S := fun w' => w'.cell? ⟨g, 3, none⟩ = some (.map (some m)) ∧ w'.cell? ⟨x.bk, 0, none⟩ = some (.string x.nm)) (ds := [8]) #[false, false, false, false, false, false, false, false, false] (by kernel_rfl) rfl rfl ⟨(blk_cell (blk_drew Q3.out.hg) 3).trans rfl, (blk_cell (blk_drew X3.out) 0).trans rfl⟩ (fun hHeld => ?_)
    refine pure_ (i := 0) (N := some 45) (v := ?_) (a' := ?_) #[true, false, false, false, false, false, false, false, false] rfl rfl (by kernel_rfl) (fun _ _ _ h => h) (Or.inl ⟨by rfl, ?_⟩) ?_ ?_
    rotate_left
    · intro w'
      go_simp
      with_reducible rfl
    rotate_left
    · simp only [Act.put, List.setIfInBounds_toArray, List.set_cons_zero, List.set_cons_succ, i64_w, i32_w]
      rfl
    refine pure_ (i := 1) (N := some 46) (v := ?_) (a' := ?_) #[true, true, false, false, false, false, false, false, false] rfl rfl (by kernel_rfl) (fun _ _ _ h => h) (Or.inl ⟨by rfl, ?_⟩) ?_ ?_
    rotate_left
    · intro w'
      go_simp
      with_reducible rfl
    rotate_left
    · simp only [Act.put, List.setIfInBounds_toArray, List.set_cons_zero, List.set_cons_succ, i64_w, i32_w]
      rfl
    refine pure_ (i := 2) (N := some 47) (v := ?_) (a' := ?_) #[true, true, true, false, false, false, false, false, false] rfl rfl (by kernel_rfl) (fun _ _ _ h => h) (Or.inl ⟨by rfl, ?_⟩) ?_ ?_
    rotate_left
    · intro w'
      go_simp
      with_reducible rfl
    rotate_left
    · simp only [Act.put, List.setIfInBounds_toArray, List.set_cons_zero, List.set_cons_succ, i64_w, i32_w]
      rfl
    refine pure_ (i := 4) (N := some 49) (v := ?_) (a' := ?_) #[true, true, true, false, true, false, false, false, false] rfl rfl (by kernel_rfl) (fun _ _ _ h => h) (Or.inl ⟨by rfl, ?_⟩) ?_ ?_
    rotate_left
    · intro w'
      go_simp
      with_reducible rfl
    rotate_left
    · simp only [Act.put, List.setIfInBounds_toArray, List.set_cons_zero, List.set_cons_succ, i64_w, i32_w]
      rfl
    refine pure_ (i := 5) (N := some 50) (v := ?_) (a' := ?_) #[true, true, true, false, true, true, false, false, false] rfl rfl (by kernel_rfl) (fun _ _ _ h => h) (Or.inl ⟨by rfl, ?_⟩) ?_ ?_
    rotate_left
    · intro w'
      go_simp
      with_reducible rfl
    rotate_left
    · simp only [Act.put, List.setIfInBounds_toArray, List.set_cons_zero, List.set_cons_succ, i64_w, i32_w]
      rfl
    refine pure_ (i := 6) (N := some 51) (v := ?_) (a' := ?_) #[true, true, true, false, true, true, true, false, false] rfl rfl (by kernel_rfl) (fun _ _ _ h => h) (Or.inl ⟨by rfl, ?_⟩) ?_ ?_
    rotate_left
    · intro w'
      go_simp
      with_reducible rfl
    rotate_left
    · simp only [Act.put, List.setIfInBounds_toArray, List.set_cons_zero, List.set_cons_succ, i64_w, i32_w]
      rfl
    refine take_ (i := 3) (N := some 48) (v := ?_) (a' := ?_) #[true, true, true, true, true, true, true, false, false] rfl rfl (by kernel_rfl) (fun _ _ _ h => h) (Or.inl ⟨by rfl, ?_⟩) hHeld ?_ ?_
    rotate_left
    · rintro w' ⟨s0, s1⟩
      go_simp
      with_reducible rfl
    rotate_left
    · simp only [Act.put, List.setIfInBounds_toArray, List.set_cons_zero, List.set_cons_succ, i64_w, i32_w]
      rfl
    refine take_ (i := 7) (N := some 52) (v := ?_) (a' := ?_) #[true, true, true, true, true, true, true, true, false] rfl rfl (by kernel_rfl) (fun _ _ _ h => h) (Or.inl ⟨by rfl, ?_⟩) hHeld ?_ ?_
    rotate_left
    · rintro w' ⟨s0, s1⟩
      go_simp
      with_reducible rfl
    rotate_left
    · simp only [Act.put, List.setIfInBounds_toArray, List.set_cons_zero, List.set_cons_succ, i64_w, i32_w]
      rfl
    refine last_ (i := 8) (N := none) #[true, true, true, true, true, true, true, true, true] rfl rfl (by kernel_rfl) (by decide) (fun K hK => ?_)
    refine value_ (w1 := ?_) (v := ?_) (by rfl) rfl ?_ ?_
    rotate_left 2
    · go_simp
      constructor
      · rfl
      · rfl
    refine hK.out _ _ ?_
    clear hK K
    refine done_ (by kernel_rfl) ?_
    have hne4 : ∀ k, k ≠ m → k < w3.heap.size → w4.heap[k]? = w3.heap[k]? := fun k hk hl => GR4.out.block k hl (fun e => hk (Option.some.inj e))
    have MD := H.out.map.ok.del H.out.good.names HXM.out
    have C4 := Aside0.mk (show Ck N (fun k => P k ∧ k < w.heap.size) w4 g (now + 1) turns (but d1 x.nm) from ⟨m, q3, _, c, _, Q3.out.keep (fun k hk hl => hne4 k hk.2 hl), but_perm HP3.out H.out.perm H.out.good.names, HH3.out, ⟨by have := ownsMap_tight HO4.out; rwa [MD.size] at this, MD⟩, H.out.nm, H.out.pm, H.out.good.but _⟩)
    have O4 := Aside0.mk (Kd.R_mono (Kd.R_move (Kd.R_bound O3.out) (fun k q => hne4 k (fun e => by have := H.out.pm.2; have := q.1; omega) q.2.2.1)) (fun k q => q.1))
    have B4 := Aside0.mk (below_grownN (below_drew B3.out) HS3.out GR4.out (fun k e => by injection e with e; rw [← e]; exact H.out.nm))
    have K4 := Aside0.mk (Kept.of_grown GR4.out K3.out.drew (fun k e => .inl (by injection e with e; rw [← e]; exact H.out.pm)))
    have y0 : w4.cell? ⟨x.bk, 0, none⟩ = some (.string x.nm) := (blk_cell ((hne4 _ (ne_map H.out.map.own (by have := HX.out; rw [this]; exact (H.out.isq.due 0 HQ0.out).1)) (blk_lt X3.out)).trans X3.out) 0).trans rfl
    have T4 := Aside0.mk (T2.out.pop H.out.good (Int.lt_of_lt_of_le HTU.out (by decide)) HXM.out HA.out HLE.out)
    have HLL := Aside0.mk T2.out.len
    have HW4 := Aside0.mk K4.out.1
    have HLB := Aside0.mk (but_len HXM.out H.out.good.names)
    clear hne4 MD hdel hHeld B3 K3 O3 M3 HO4 GR4 H Q3 HP3 HH3 X3 KM HLE HXM HA HXG T2
    go_wp2_with (first | ((with_reducible refine gate_dst (N := 58) rfl ?_); refine Kd.R_lit Kd.string _ 9 ?hg (N := 58) ?hd (xs := ([x.nm] : List ByteArray)) (inner := [.string x.nm]) (ok := fun _ => True) (okp := fun _ => True) ?hr ?hp (fun _ hk => hk) trivial (Below.refl _ _) (Nat.le_refl _) (by simp) ?_; (case hd => rfl); (case hg => rfl); (case hr => first | (go_simp; done) | (go_simp; rfl)); (case hp => exact (Reps.one (show Kd.M Kd.string _ _ _ x.nm [.string x.nm] from rfl) (Reps.none _ _))); intro vL w5 ho10 hb hg_ hnew_; obtain ⟨AN, cN, eN, hcN, hrN⟩ := Kd.R_reads ho10; subst eN; have RL := Aside0.mk hrN; have C5 := Aside0.mk (C4.out.below hb); have O5 := Aside0.mk (Kd.R_below O4.out hb); have B5 := Aside0.mk (below_on B4.out (Nat.le_trans HNS.out HW4.out) hb); have K5 := Aside0.mk (K4.out.below hb); have HW5 := Aside0.mk (Nat.le_trans HW4.out hb.size); clear ho10 hb hg_ hnew_ hcN hrN) | ((with_reducible refine gate_builtin (b := .append) (xs := #[.tmp 53, .tmp 58]) rfl ?_); at_builtin; refine Kd.R_append_rows Kd.string (Rr := Kd.string.K w5) (w0 := w5) w.heap.size rfl (.tmp 53) (.tmp 58) 29 9 (.string ⟨#[]⟩) 16 rfl Try.underlying29 info9 rfl (by decide) (by omega) (.slice AL L.length cL) L [x.nm] _ _ _ (fun k => w.heap.size ≤ k) (fun _ => False) rfl rfl ?aO ?aR (fun _ _ h => h) (fun _ h => h.elim) ?aF ?aB ?aS ?aL ?_; (case aR => exact RL.out); (case aB => exact Below.refl _ _); (case aF => exact (fun k hk => Nat.le_trans HW5.out hk)); (case aO => exact O5.out); (case aS => exact HW5.out); (case aL => have := HLL.out; have := HLN.out; simp only [List.length_cons, List.length_nil]; omega); intro v6 w6 ho hb hg hat; have O6 := Aside0.mk ho; have hrw := (fun k (e : (Value.slice AL L.length cL).ownBlock = some k) => O5.out.1 k e); have C6 := Aside0.mk (C5.out.keep (fun k hk hl => hg.block k hl (fun e => by have := hrw k e.symm; have := hk.2; omega))); have B6 := Aside0.mk (below_grownN B5.out (Nat.le_trans HNS.out HW5.out) hg (fun k e => Nat.le_trans HNS.out (hrw k e))); have K6 := Aside0.mk (Kept.of_grown hg K5.out (fun k e => .inr (hrw k e))); clear ho hb hg hat hrw))
    go_roundg (d1.length)
    case measure => have := HK.out; omega
    case rel => exact ⟨but d1 x.nm, L ++ [x.nm], ⟨by rw [HLB.out]⟩, C6, O6, T4, B6, K6⟩
end Go.Proofs.Ytdodaepdghlolaa.Pure.Clk
