/-
  The clock's queue in memory: Swap.
-/
import Derived.Test.YtdodaepdghlolaaOClk1
namespace Go.Proofs.Ytdodaepdghlolaa.Pure.Clk
open Go.RowKit Go.Proofs.Ytdodaepdghlolaa.M Go.Proofs.YtdodaepdghlolaaW.PrintWords Go.Proofs.YtdodaepdghlolaaW.PrintLast Go.Proofs.YtdodaepdghlolaaW.PrintMore Go.Proofs.Ytdodaepdghlolaa.Pure
set_option linter.unusedVariables false
set_option linter.unusedSimpArgs false
variable {N : Nat} {P P' : Nat → Prop} {w w' : World} {g : Nat} {now turns : Int} {m : Nat} {q : List Du} {A : Option Addr} {c : Nat}

theorem addr0 (r i : Nat) : (⟨r, 0, none⟩ : Addr).add i = ⟨r, i, none⟩ := by
  simp [Addr.add]
  exact fun h => h.symm
theorem row_typed {r : Kd Nat} {e N : Nat} {P : Nat → Prop} {w : World} {k : Nat} {n c : Nat} {xs : List Nat} (h : Kd.R r e w N P (.slice (some ⟨k, 0, none⟩) n c) xs) : ∃ cells, w.heap[k]? = some (.cells cells e (0, 0)) := by
  obtain ⟨h0, inner, ho, hr⟩ := h
  exact own_typed ho k rfl
/-- the rows are swapped, the places not yet -/
structure IsM (N : Nat) (P : Nat → Prop) (w : World) (g : Nat) (now turns : Int) (m : Nat) (q q' : List Du) (A : Option Addr) (c : Nat) : Prop where
  hg : w.heap[g]? = some (.cells #[.int .i64 now, .int .i64 turns, .slice A q.length c, .map (some m)] 59 (0, 0))
  ng : N ≤ g
  pg : P g
  row : Kd.R kQ 60 w N P (.slice A q.length c) (q'.map Du.bk)
  due : ∀ i, i < q.length → w.heap[(nth q i).bk]? = some (.cells (dcells (nth q i) i) 63 (0, 0)) ∧ N ≤ (nth q i).bk ∧ P (nth q i).bk
theorem IsM.below {q' : List Du} (h : IsM N P w g now turns m q q' A c) (hb : Below w.heap.size w w') : IsM N P w' g now turns m q q' A c :=
  ⟨blk_below h.hg hb, h.ng, h.pg, Kd.R_below h.row hb, fun i hi => ⟨blk_below (h.due i hi).1 hb, (h.due i hi).2⟩⟩
theorem IsM.drew {q' : List Du} (h : IsM N P w g now turns m q q' A c) : IsM N P w.drew g now turns m q q' A c := h.below (below_drew (Below.refl _ _))
theorem IsM.cell {q' : List Du} {ad : Addr} (h : IsM N P w g now turns m q q' (some ad) c) {i : Nat} (hi : i < q'.length) : w.cell? (ad.add i) = some (ptr (nth q' i).bk) := by
  have := row_cell h.row (i := i) (by simpa using hi)
  rwa [bk_nth hi] at this
theorem ne_typed {w : World} {a b s t : Nat} {x y : Array Value} (h1 : w.heap[a]? = some (.cells x s (0, 0))) (h2 : w.heap[b]? = some (.cells y t (0, 0))) (hst : s ≠ t) : a ≠ b := by
  intro e
  subst e
  rw [h1] at h2
  injection h2 with h2
  injection h2 with _ h3 _
  exact hst h3
theorem put_row {r i : Nat} {n : Nat} {xs : List Nat} (h : Kd.R kQ 60 w N P (.slice (some ⟨r, 0, none⟩) n c) xs) (b : Nat) : Kd.R kQ 60 (w.setCell ⟨r, i, none⟩ (ptr b)) N P (.slice (some ⟨r, 0, none⟩) n c) (xs.set i b) := by
  have := Kd.R_putn (enc := fun b : Nat => Value.pointer (some ⟨b, 0, none⟩)) (h1 := fun _ => rfl) h (i : Int) b
  rw [Int.toNat_natCast] at this
  exact this
theorem IsQ.mid {r i j : Nat} (h : IsQ N P w g now turns m q (some ⟨r, 0, none⟩) c) (hi : i < q.length) (hj : j < q.length) :
    IsM N P ((w.setCell ⟨r, i, none⟩ (ptr (nth q j).bk)).setCell ⟨r, j, none⟩ (ptr (nth q i).bk)) g now turns m q (swap q i j) (some ⟨r, 0, none⟩) c := by
  obtain ⟨cs, ht⟩ := row_typed h.row
  refine ⟨blk_far (blk_far h.hg (p := ⟨r, i, none⟩) (ne_typed h.hg ht (by decide)) _) (p := ⟨r, j, none⟩) (ne_typed h.hg ht (by decide)) _, h.ng, h.pg, ?_, fun k hk => ⟨?_, (h.due k hk).2⟩⟩
  · rw [swap_bk]
    exact put_row (put_row h.row _) _
  · have hne := ne_typed (h.due k hk).1 ht (by decide)
    exact blk_far (blk_far (h.due k hk).1 (p := ⟨r, i, none⟩) hne _) (p := ⟨r, j, none⟩) hne _
theorem set3 {w : World} {b : Nat} {x : Du} {i : Nat} (h : w.heap[b]? = some (.cells (dcells x i) 63 (0, 0))) (j : Nat) : (w.setCell ⟨b, 3, none⟩ (.int .i64 (j : Int))).heap[b]? = some (.cells (dcells x j) 63 (0, 0)) := blk_put h 3 _ (cs' := dcells x j) rfl
theorem IsM.one {q' : List Du} (h : IsM N P w g now turns m q q' A c) {i j : Nat} (hi : i < q.length) (hj : j < q.length) (e : (nth q i).bk = (nth q j).bk) : i = j := by
  have h1 := (h.due i hi).1
  have h2 := (h.due j hj).1
  rw [e, h2] at h1
  injection h1 with h1
  injection h1 with h1 _ _
  have := congrArg (fun x => x[3]?) h1
  simp [dcells] at this
  omega
theorem row_far {xs : List Nat} {v : Value} {b : Nat} {cs : Array Value} (h : Kd.R kQ 60 w N P v xs) (hb : w.heap[b]? = some (.cells cs 63 (0, 0))) (j : Nat) (u : Value) : Kd.R kQ 60 (w.setCell ⟨b, j, none⟩ u) N P v xs :=
  Kd.R_set h hb (fun t ht => by
    rcases List.mem_cons.1 ht with rfl | ht
    · decide
    · simp [kQ, Kd.scalar] at ht) j u
theorem IsM.done {i j : Nat} (h : IsM N P w g now turns m q (swap q i j) A c) (hi : i < q.length) (hj : j < q.length) :
    IsQ N P ((w.setCell ⟨(nth q j).bk, 3, none⟩ (.int .i64 (i : Int))).setCell ⟨(nth q i).bk, 3, none⟩ (.int .i64 (j : Int))) g now turns m (swap q i j) A c := by
  have di := (h.due i hi).1
  have dj := (h.due j hj).1
  have L := swap_len q i j
  refine ⟨?_, h.ng, h.pg, ?_, fun k hk => ?_⟩
  · rw [L]
    exact blk_far (blk_far h.hg (p := ⟨_, 3, none⟩) (ne_typed h.hg dj (by decide)) _) (p := ⟨_, 3, none⟩) (ne_typed h.hg di (by decide)) _
  · rw [L]
    by_cases e : i = j
    · subst e
      exact row_far (row_far h.row dj 3 _) (set3 di i) 3 _
    · exact row_far (row_far h.row dj 3 _) (blk_far di (p := ⟨(nth q j).bk, 3, none⟩) (fun e2 => e (h.one hi hj e2)) _) 3 _
  · rw [L] at hk
    rw [nth_swap hi hj]
    by_cases kj : k = j
    · subst kj
      rw [if_pos rfl]
      refine ⟨?_, (h.due i hi).2⟩
      by_cases e : i = k
      · subst e; exact set3 (set3 di _) _
      · exact set3 (blk_far di (p := ⟨(nth q k).bk, 3, none⟩) (fun e2 => e (h.one hi hj e2)) _) _
    · rw [if_neg kj]
      by_cases ki : k = i
      · subst ki
        rw [if_pos rfl]
        exact ⟨blk_far (set3 dj _) (p := ⟨(nth q k).bk, 3, none⟩) (fun e2 => kj (h.one hi hj e2.symm)) _, (h.due j hj).2⟩
      · rw [if_neg ki]
        have dk := (h.due k hk).1
        exact ⟨blk_far (blk_far dk (p := ⟨(nth q j).bk, 3, none⟩) (fun e2 => kj (h.one hk hj e2)) _) (p := ⟨(nth q i).bk, 3, none⟩) (fun e2 => ki (h.one hk hi e2)) _, (h.due k hk).2⟩
theorem swap_i {i j : Nat} (hi : i < q.length) (hj : j < q.length) : (nth (swap q i j) i).bk = (nth q j).bk := by
  rw [nth_swap hi hj]
  by_cases e : i = j
  · subst e; rw [if_pos rfl]
  · rw [if_neg e, if_pos rfl]
theorem swap_j {i j : Nat} (hi : i < q.length) (hj : j < q.length) : (nth (swap q i j) j).bk = (nth q i).bk := by rw [nth_swap hi hj, if_pos rfl]
theorem set3_cell {w : World} {b : Nat} {x : Du} {i : Nat} (h : w.heap[b]? = some (.cells (dcells x i) 63 (0, 0))) (b' : Nat) (u : Value) : ∃ z, (w.setCell ⟨b', 3, none⟩ u).cell? ⟨b, 3, none⟩ = some z := by
  by_cases e : b = b'
  · subst e
    exact ⟨_, (blk_cell (blk_put h 3 u (cs' := #[.string x.nm, .int .i64 x.at_, .int .i64 x.tn, u]) rfl) 3).trans rfl⟩
  · exact ⟨_, (blk_cell (blk_far h (p := ⟨b', 3, none⟩) e u) 3).trans rfl⟩
set_option maxHeartbeats 8000000 in
set_option maxRecDepth 100000 in
theorem swap_calls {i j : Nat} (h : IsQ N P w g now turns m q A c) (hi : i < q.length) (hj : j < q.length) :
    Calls Try.prog 46 #[.slice A q.length c, .int .i64 (i : Int), .int .i64 (j : Int)] w fun e w' => e = .returned (.tuple #[]) ∧ IsQ N P w' g now turns m (swap q i j) A c ∧ Below N w w' ∧ Kept w w' P := by
  obtain ⟨r, eA, hr0, hr1⟩ := row_at h.row (by omega)
  obtain ⟨ad, had⟩ : ∃ ad, ad = (⟨r, 0, none⟩ : Addr) := ⟨_, rfl⟩
  have h' := h
  rw [eA] at h'
  rw [eA, ← had]
  rw [eA, ← had] at h
  subst eA
  have HAD := Aside0.mk had
  have H := Aside0.mk h; have HR := Aside0.mk hr0; have HP := Aside0.mk hr1; have HI := Aside0.mk hi; have HJ := Aside0.mk hj; have H' := Aside0.mk h'
  obtain ⟨bi, hbi⟩ : ∃ b, b = (nth q i).bk := ⟨_, rfl⟩
  obtain ⟨bj, hbj⟩ : ∃ b, b = (nth q j).bk := ⟨_, rfl⟩
  have HBI := Aside0.mk hbi; have HBJ := Aside0.mk hbj
  have ii0 : (0 : Int) ≤ (i : Int) := by omega
  have ii1 : (i : Int) < (q.length : Int) := by omega
  have ii2 := eq_true ii0; have ii3 := eq_true ii1; have ii4 : decide ((0 : Int) ≤ (i : Int)) = true := decide_eq_true ii0; have ii5 : decide ((i : Int) < (q.length : Int)) = true := decide_eq_true ii1
  have ij0 : (0 : Int) ≤ (j : Int) := by omega
  have ij1 : (j : Int) < (q.length : Int) := by omega
  have ij2 := eq_true ij0; have ij3 := eq_true ij1; have ij4 : decide ((0 : Int) ≤ (j : Int)) = true := decide_eq_true ij0; have ij5 : decide ((j : Int) < (q.length : Int)) = true := decide_eq_true ij1
  have s0 := h.cell hi; have s1 := h.cell hj
  rw [← hbi] at s0
  rw [← hbj] at s1
  unfold ptr at s0 s1
  obtain ⟨rc, hrc⟩ := row_typed h'.row
  have fz0 : w.frozen? (ad.add i) = false := by rw [had, addr0]; exact blk_frozen hrc i
  have fz1 : w.frozen? (ad.add j) = false := by rw [had, addr0]; exact blk_frozen hrc j
  obtain ⟨z, hz⟩ : ∃ z, (w.setCell (ad.add i) (Value.pointer (some ⟨bj, 0, none⟩))).cell? (ad.add j) = some z := by
    rw [had, addr0]
    exact ⟨_, row_cell (put_row h'.row bj) (i := j) (by simpa using hj)⟩
  have HS0 := Aside0.mk s0; have HS1 := Aside0.mk s1
  clear hrc h hr0 hr1 hi hj had hbi hbj s0 s1 h'
  go_enter Try.func46, Try.ntmps46
  go_wp2_with fail
  refine start_ (n := 16) (S := fun w' => w'.cell? (ad.add i) = some (.pointer (some ⟨bi, 0, none⟩)) ∧ w'.cell? (ad.add j) = some (.pointer (some ⟨bj, 0, none⟩))) (ds := [13, 15]) #[false, false, false, false, false, false, false, false, false, false, false, false, false, false, false, false] (by kernel_rfl) rfl rfl ⟨HS0.out, HS1.out⟩ (fun hHeld => ?_)
  refine pure_ (i := 0) (N := some 6) (v := ?_) (a' := ?_) #[true, false, false, false, false, false, false, false, false, false, false, false, false, false, false, false] rfl rfl (by kernel_rfl) (fun _ _ _ h => h) (Or.inl ⟨by rfl, ?_⟩) ?_ ?_
  rotate_left
  · intro w'
    go_simp
    with_reducible rfl
  rotate_left
  · simp only [Act.put, List.setIfInBounds_toArray, List.set_cons_zero, List.set_cons_succ, i64_w, i32_w]
    rfl
  refine pure_ (i := 1) (N := some 7) (v := ?_) (a' := ?_) #[true, true, false, false, false, false, false, false, false, false, false, false, false, false, false, false] rfl rfl (by kernel_rfl) (fun _ _ _ h => h) (Or.inl ⟨by rfl, ?_⟩) ?_ ?_
  rotate_left
  · intro w'
    go_simp
    with_reducible rfl
  rotate_left
  · simp only [Act.put, List.setIfInBounds_toArray, List.set_cons_zero, List.set_cons_succ, i64_w, i32_w]
    rfl
  refine pure_ (i := 2) (N := some 8) (v := ?_) (a' := ?_) #[true, true, true, false, false, false, false, false, false, false, false, false, false, false, false, false] rfl rfl (by kernel_rfl) (fun _ _ _ h => h) (Or.inl ⟨by rfl, ?_⟩) ?_ ?_
  rotate_left
  · intro w'
    go_simp
    with_reducible rfl
  rotate_left
  · simp only [Act.put, List.setIfInBounds_toArray, List.set_cons_zero, List.set_cons_succ, i64_w, i32_w]
    rfl
  refine pure_ (i := 3) (N := some 9) (v := ?_) (a' := ?_) #[true, true, true, true, false, false, false, false, false, false, false, false, false, false, false, false] rfl rfl (by kernel_rfl) (fun _ _ _ h => h) (Or.inl ⟨by rfl, ?_⟩) ?_ ?_
  rotate_left
  · intro w'
    go_simp
    with_reducible rfl
  rotate_left
  · simp only [Act.put, List.setIfInBounds_toArray, List.set_cons_zero, List.set_cons_succ, i64_w, i32_w]
    rfl
  refine pure_ (i := 4) (N := some 10) (v := ?_) (a' := ?_) #[true, true, true, true, true, false, false, false, false, false, false, false, false, false, false, false] rfl rfl (by kernel_rfl) (fun _ _ _ h => h) (Or.inl ⟨by rfl, ?_⟩) ?_ ?_
  rotate_left
  · intro w'
    go_simp
    with_reducible rfl
  rotate_left
  · simp only [Act.put, List.setIfInBounds_toArray, List.set_cons_zero, List.set_cons_succ, i64_w, i32_w]
    rfl
  refine pure_ (i := 5) (N := some 11) (v := ?_) (a' := ?_) #[true, true, true, true, true, true, false, false, false, false, false, false, false, false, false, false] rfl rfl (by kernel_rfl) (fun _ _ _ h => h) (Or.inl ⟨by rfl, ?_⟩) ?_ ?_
  rotate_left
  · intro w'
    go_simp
    with_reducible rfl
  rotate_left
  · simp only [Act.put, List.setIfInBounds_toArray, List.set_cons_zero, List.set_cons_succ, i64_w, i32_w]
    rfl
  refine pure_ (i := 6) (N := some 12) (v := ?_) (a' := ?_) #[true, true, true, true, true, true, true, false, false, false, false, false, false, false, false, false] rfl rfl (by kernel_rfl) (fun _ _ _ h => h) (Or.inl ⟨by rfl, ?_⟩) ?_ ?_
  rotate_left
  · intro w'
    go_simp
    with_reducible rfl
  rotate_left
  · simp only [Act.put, List.setIfInBounds_toArray, List.set_cons_zero, List.set_cons_succ, i64_w, i32_w]
    rfl
  refine pure_ (i := 8) (N := some 14) (v := ?_) (a' := ?_) #[true, true, true, true, true, true, true, false, true, false, false, false, false, false, false, false] rfl rfl (by kernel_rfl) (fun _ _ _ h => h) (Or.inl ⟨by rfl, ?_⟩) ?_ ?_
  rotate_left
  · intro w'
    go_simp
    with_reducible rfl
  rotate_left
  · simp only [Act.put, List.setIfInBounds_toArray, List.set_cons_zero, List.set_cons_succ, i64_w, i32_w]
    rfl
  refine pure_ (i := 9) (N := some 15) (v := ?_) (a' := ?_) #[true, true, true, true, true, true, true, false, true, true, false, false, false, false, false, false] rfl rfl (by kernel_rfl) (fun _ _ _ h => h) (Or.inl ⟨by rfl, ?_⟩) ?_ ?_
  rotate_left
  · intro w'
    go_simp
    with_reducible rfl
  rotate_left
  · simp only [Act.put, List.setIfInBounds_toArray, List.set_cons_zero, List.set_cons_succ, i64_w, i32_w]
    rfl
  refine pure_ (i := 10) (N := some 16) (v := ?_) (a' := ?_) #[true, true, true, true, true, true, true, false, true, true, true, false, false, false, false, false] rfl rfl (by kernel_rfl) (fun _ _ _ h => h) (Or.inl ⟨by rfl, ?_⟩) ?_ ?_
  rotate_left
  · intro w'
    go_simp
    with_reducible rfl
  rotate_left
  · simp only [Act.put, List.setIfInBounds_toArray, List.set_cons_zero, List.set_cons_succ, i64_w, i32_w]
    rfl
  refine take_ (i := 7) (N := some 13) (v := ?_) (a' := ?_) #[true, true, true, true, true, true, true, true, true, true, true, false, false, false, false, false] rfl rfl (by kernel_rfl) (fun _ _ _ h => h) (Or.inl ⟨by rfl, ?_⟩) hHeld ?_ ?_
  rotate_left
  · rintro w' ⟨s0, s1⟩
    go_simp
    with_reducible rfl
  rotate_left
  · simp only [Act.put, List.setIfInBounds_toArray, List.set_cons_zero, List.set_cons_succ, i64_w, i32_w]
    rfl
  refine take_ (i := 11) (N := some 17) (v := ?_) (a' := ?_) #[true, true, true, true, true, true, true, true, true, true, true, true, false, false, false, false] rfl rfl (by kernel_rfl) (fun _ _ _ h => h) (Or.inl ⟨by rfl, ?_⟩) hHeld ?_ ?_
  rotate_left
  · rintro w' ⟨s0, s1⟩
    go_simp
    with_reducible rfl
  rotate_left
  · simp only [Act.put, List.setIfInBounds_toArray, List.set_cons_zero, List.set_cons_succ, i64_w, i32_w]
    rfl
  refine pure_ (i := 12) (N := some 18) (v := ?_) (a' := ?_) #[true, true, true, true, true, true, true, true, true, true, true, true, true, false, false, false] rfl rfl (by kernel_rfl) (fun _ _ _ h => h) (Or.inl ⟨by rfl, ?_⟩) ?_ ?_
  rotate_left
  · intro w'
    go_simp
    with_reducible rfl
  rotate_left
  · simp only [Act.put, List.setIfInBounds_toArray, List.set_cons_zero, List.set_cons_succ, i64_w, i32_w]
    rfl
  refine last_ (i := 13) (N := none) #[true, true, true, true, true, true, true, true, true, true, true, true, true, true, false, false] rfl rfl (by kernel_rfl) (by decide) (fun K hK => ?_)
  refine skip_ (w1 := ?_) (by rfl) rfl ?_ ?_
  rotate_left
  · go_simp
    rfl
  refine hK.out _ _ ?_
  clear hK K
  refine pure_ (i := 14) (N := some 19) (v := ?_) (a' := ?_) #[true, true, true, true, true, true, true, true, true, true, true, true, true, true, true, false] rfl rfl (by kernel_rfl) (fun _ _ _ h => h) (Or.inl ⟨by rfl, ?_⟩) ?_ ?_
  rotate_left
  · intro w'
    go_simp
    with_reducible rfl
  rotate_left
  · simp only [Act.put, List.setIfInBounds_toArray, List.set_cons_zero, List.set_cons_succ, i64_w, i32_w]
    rfl
  refine last_ (i := 15) (N := none) #[true, true, true, true, true, true, true, true, true, true, true, true, true, true, true, true] rfl rfl (by kernel_rfl) (by decide) (fun K hK => ?_)
  refine skip_ (w1 := ?_) (by rfl) rfl ?_ ?_
  rotate_left
  · go_simp
    rfl
  refine hK.out _ _ ?_
  clear hK K
  refine done_ (by kernel_rfl) ?_
  go_wp2_with fail
  have M1 := Aside0.mk (show IsM N P ((w.setCell (ad.add i) (Value.pointer (some ⟨bj, 0, none⟩))).setCell (ad.add j) (Value.pointer (some ⟨bi, 0, none⟩))) g now turns m q (swap q i j) (some ad) c by
    rw [HAD.out, addr0, addr0, HBI.out, HBJ.out]
    exact H'.out.mid HI.out HJ.out)
  have B1 := Aside0.mk (below_setB (below_setB (Below.refl N w) (p := ad.add i) (by rw [HAD.out, addr0]; exact HR.out) (Value.pointer (some ⟨bj, 0, none⟩))) (p := ad.add j) (by rw [HAD.out, addr0]; exact HR.out) (Value.pointer (some ⟨bi, 0, none⟩)))
  have K1 := Aside0.mk (((Kept.refl w P).setCell (p := ad.add i) (.inl (by rw [HAD.out, addr0]; exact HP.out)) (Value.pointer (some ⟨bj, 0, none⟩))).setCell (p := ad.add j) (.inl (by rw [HAD.out, addr0]; exact HP.out)) (Value.pointer (some ⟨bi, 0, none⟩)))
  have HBQ := Aside0.mk (show N ≤ bi ∧ P bi ∧ N ≤ bj ∧ P bj by rw [HBI.out, HBJ.out]; exact ⟨(H.out.due i HI.out).2.1, (H.out.due i HI.out).2.2, (H.out.due j HJ.out).2.1, (H.out.due j HJ.out).2.2⟩)
  clear hHeld fz0 fz1 hz HS0 HS1 H H' HR HP
  generalize (w.setCell (ad.add i) (Value.pointer (some ⟨bj, 0, none⟩))).setCell (ad.add j) (Value.pointer (some ⟨bi, 0, none⟩)) = w1 at M1 B1 K1 ⊢
  have HS0 := Aside0.mk (show w1.cell? (ad.add i) = some (Value.pointer (some ⟨bj, 0, none⟩)) by rw [HBJ.out, ← swap_i HI.out HJ.out]; exact M1.out.cell (by rw [swap_len]; exact HI.out))
  have HS1 := Aside0.mk (show w1.cell? (ad.add j) = some (Value.pointer (some ⟨bi, 0, none⟩)) by rw [HBI.out, ← swap_j HI.out HJ.out]; exact M1.out.cell (by rw [swap_len]; exact HJ.out))
  have di := (M1.out.due i HI.out).1
  have dj := (M1.out.due j HJ.out).1
  rw [← HBI.out] at di
  rw [← HBJ.out] at dj
  have fz0 := blk_frozen di 3; have fz1 := blk_frozen dj 3
  have cz1 : w1.cell? ⟨bj, 3, none⟩ = some (.int .i64 (j : Int)) := (blk_cell dj 3).trans rfl
  obtain ⟨z2, hz2⟩ := set3_cell di bj (.int .i64 (i : Int))
  clear di dj
  refine start_ (n := 16) (S := fun w' => w'.cell? (ad.add i) = some (.pointer (some ⟨bj, 0, none⟩)) ∧ w'.cell? (ad.add j) = some (.pointer (some ⟨bi, 0, none⟩))) (ds := [12, 15]) #[false, false, false, false, false, false, false, false, false, false, false, false, false, false, false, false] (by kernel_rfl) rfl rfl ⟨HS0.out, HS1.out⟩ (fun hHeld => ?_)
  refine pure_ (i := 0) (N := some 20) (v := ?_) (a' := ?_) #[true, false, false, false, false, false, false, false, false, false, false, false, false, false, false, false] rfl rfl (by kernel_rfl) (fun _ _ _ h => h) (Or.inl ⟨by rfl, ?_⟩) ?_ ?_
  rotate_left
  · intro w'
    go_simp
    with_reducible rfl
  rotate_left
  · simp only [Act.put, List.setIfInBounds_toArray, List.set_cons_zero, List.set_cons_succ, i64_w, i32_w]
    rfl
  refine pure_ (i := 1) (N := some 21) (v := ?_) (a' := ?_) #[true, true, false, false, false, false, false, false, false, false, false, false, false, false, false, false] rfl rfl (by kernel_rfl) (fun _ _ _ h => h) (Or.inl ⟨by rfl, ?_⟩) ?_ ?_
  rotate_left
  · intro w'
    go_simp
    with_reducible rfl
  rotate_left
  · simp only [Act.put, List.setIfInBounds_toArray, List.set_cons_zero, List.set_cons_succ, i64_w, i32_w]
    rfl
  refine pure_ (i := 2) (N := some 22) (v := ?_) (a' := ?_) #[true, true, true, false, false, false, false, false, false, false, false, false, false, false, false, false] rfl rfl (by kernel_rfl) (fun _ _ _ h => h) (Or.inl ⟨by rfl, ?_⟩) ?_ ?_
  rotate_left
  · intro w'
    go_simp
    with_reducible rfl
  rotate_left
  · simp only [Act.put, List.setIfInBounds_toArray, List.set_cons_zero, List.set_cons_succ, i64_w, i32_w]
    rfl
  refine pure_ (i := 4) (N := some 24) (v := ?_) (a' := ?_) #[true, true, true, false, true, false, false, false, false, false, false, false, false, false, false, false] rfl rfl (by kernel_rfl) (fun _ _ _ h => h) (Or.inl ⟨by rfl, ?_⟩) ?_ ?_
  rotate_left
  · intro w'
    go_simp
    with_reducible rfl
  rotate_left
  · simp only [Act.put, List.setIfInBounds_toArray, List.set_cons_zero, List.set_cons_succ, i64_w, i32_w]
    rfl
  refine pure_ (i := 5) (N := some 25) (v := ?_) (a' := ?_) #[true, true, true, false, true, true, false, false, false, false, false, false, false, false, false, false] rfl rfl (by kernel_rfl) (fun _ _ _ h => h) (Or.inl ⟨by rfl, ?_⟩) ?_ ?_
  rotate_left
  · intro w'
    go_simp
    with_reducible rfl
  rotate_left
  · simp only [Act.put, List.setIfInBounds_toArray, List.set_cons_zero, List.set_cons_succ, i64_w, i32_w]
    rfl
  refine pure_ (i := 6) (N := some 26) (v := ?_) (a' := ?_) #[true, true, true, false, true, true, true, false, false, false, false, false, false, false, false, false] rfl rfl (by kernel_rfl) (fun _ _ _ h => h) (Or.inl ⟨by rfl, ?_⟩) ?_ ?_
  rotate_left
  · intro w'
    go_simp
    with_reducible rfl
  rotate_left
  · simp only [Act.put, List.setIfInBounds_toArray, List.set_cons_zero, List.set_cons_succ, i64_w, i32_w]
    rfl
  refine pure_ (i := 8) (N := some 28) (v := ?_) (a' := ?_) #[true, true, true, false, true, true, true, false, true, false, false, false, false, false, false, false] rfl rfl (by kernel_rfl) (fun _ _ _ h => h) (Or.inl ⟨by rfl, ?_⟩) ?_ ?_
  rotate_left
  · intro w'
    go_simp
    with_reducible rfl
  rotate_left
  · simp only [Act.put, List.setIfInBounds_toArray, List.set_cons_zero, List.set_cons_succ, i64_w, i32_w]
    rfl
  refine pure_ (i := 9) (N := some 29) (v := ?_) (a' := ?_) #[true, true, true, false, true, true, true, false, true, true, false, false, false, false, false, false] rfl rfl (by kernel_rfl) (fun _ _ _ h => h) (Or.inl ⟨by rfl, ?_⟩) ?_ ?_
  rotate_left
  · intro w'
    go_simp
    with_reducible rfl
  rotate_left
  · simp only [Act.put, List.setIfInBounds_toArray, List.set_cons_zero, List.set_cons_succ, i64_w, i32_w]
    rfl
  refine take_ (i := 3) (N := some 23) (v := ?_) (a' := ?_) #[true, true, true, true, true, true, true, false, true, true, false, false, false, false, false, false] rfl rfl (by kernel_rfl) (fun _ _ _ h => h) (Or.inl ⟨by rfl, ?_⟩) hHeld ?_ ?_
  rotate_left
  · rintro w' ⟨s0, s1⟩
    go_simp
    with_reducible rfl
  rotate_left
  · simp only [Act.put, List.setIfInBounds_toArray, List.set_cons_zero, List.set_cons_succ, i64_w, i32_w]
    rfl
  refine take_ (i := 7) (N := some 27) (v := ?_) (a' := ?_) #[true, true, true, true, true, true, true, true, true, true, false, false, false, false, false, false] rfl rfl (by kernel_rfl) (fun _ _ _ h => h) (Or.inl ⟨by rfl, ?_⟩) hHeld ?_ ?_
  rotate_left
  · rintro w' ⟨s0, s1⟩
    go_simp
    with_reducible rfl
  rotate_left
  · simp only [Act.put, List.setIfInBounds_toArray, List.set_cons_zero, List.set_cons_succ, i64_w, i32_w]
    rfl
  refine pure_ (i := 10) (N := some 30) (v := ?_) (a' := ?_) #[true, true, true, true, true, true, true, true, true, true, true, false, false, false, false, false] rfl rfl (by kernel_rfl) (fun _ _ _ h => h) (Or.inl ⟨by rfl, ?_⟩) ?_ ?_
  rotate_left
  · intro w'
    go_simp
    with_reducible rfl
  rotate_left
  · simp only [Act.put, List.setIfInBounds_toArray, List.set_cons_zero, List.set_cons_succ, i64_w, i32_w]
    rfl
  refine pure_ (i := 11) (N := some 31) (v := ?_) (a' := ?_) #[true, true, true, true, true, true, true, true, true, true, true, true, false, false, false, false] rfl rfl (by kernel_rfl) (fun _ _ _ h => h) (Or.inl ⟨by rfl, ?_⟩) ?_ ?_
  rotate_left
  · intro w'
    go_simp
    with_reducible rfl
  rotate_left
  · simp only [Act.put, List.setIfInBounds_toArray, List.set_cons_zero, List.set_cons_succ, i64_w, i32_w]
    rfl
  refine last_ (i := 12) (N := none) #[true, true, true, true, true, true, true, true, true, true, true, true, true, false, false, false] rfl rfl (by kernel_rfl) (by decide) (fun K hK => ?_)
  refine skip_ (w1 := ?_) (by rfl) rfl ?_ ?_
  rotate_left
  · go_simp
    rfl
  refine hK.out _ _ ?_
  clear hK K
  refine pure_ (i := 13) (N := some 32) (v := ?_) (a' := ?_) #[true, true, true, true, true, true, true, true, true, true, true, true, true, true, false, false] rfl rfl (by kernel_rfl) (fun _ _ _ h => h) (Or.inl ⟨by rfl, ?_⟩) ?_ ?_
  rotate_left
  · intro w'
    go_simp
    with_reducible rfl
  rotate_left
  · simp only [Act.put, List.setIfInBounds_toArray, List.set_cons_zero, List.set_cons_succ, i64_w, i32_w]
    rfl
  refine pure_ (i := 14) (N := some 33) (v := ?_) (a' := ?_) #[true, true, true, true, true, true, true, true, true, true, true, true, true, true, true, false] rfl rfl (by kernel_rfl) (fun _ _ _ h => h) (Or.inl ⟨by rfl, ?_⟩) ?_ ?_
  rotate_left
  · intro w'
    go_simp
    with_reducible rfl
  rotate_left
  · simp only [Act.put, List.setIfInBounds_toArray, List.set_cons_zero, List.set_cons_succ, i64_w, i32_w]
    rfl
  refine last_ (i := 15) (N := none) #[true, true, true, true, true, true, true, true, true, true, true, true, true, true, true, true] rfl rfl (by kernel_rfl) (by decide) (fun K hK => ?_)
  refine skip_ (w1 := ?_) (by rfl) rfl ?_ ?_
  rotate_left
  · go_simp
    rfl
  refine hK.out _ _ ?_
  clear hK K
  refine done_ (by kernel_rfl) ?_
  go_wp2_with fail
  go_end0
  refine ⟨rfl, ?_, ?_, ?_⟩
  · have := (M1.out.done HI.out HJ.out).drew.drew
    rw [← HBI.out, ← HBJ.out] at this
    exact this
  · exact below_drew (below_drew (below_setB (below_setB B1.out (p := ⟨bj, 3, none⟩) HBQ.out.2.2.1 _) (p := ⟨bi, 3, none⟩) HBQ.out.1 _))
  · exact ((K1.out.setCell (p := ⟨bj, 3, none⟩) (.inl HBQ.out.2.2.2) _).setCell (p := ⟨bi, 3, none⟩) (.inl HBQ.out.2.1) _).drew.drew
end Go.Proofs.Ytdodaepdghlolaa.Pure.Clk
