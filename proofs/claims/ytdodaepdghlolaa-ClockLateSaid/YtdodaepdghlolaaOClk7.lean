/-
  The clock in memory: Set.
-/
import Derived.Test.YtdodaepdghlolaaOClk6
namespace Go.Proofs.Ytdodaepdghlolaa.Pure.Clk
open Go.RowKit Go.Proofs.Ytdodaepdghlolaa.M Go.Proofs.YtdodaepdghlolaaW.PrintWords Go.Proofs.YtdodaepdghlolaaW.PrintLast Go.Proofs.YtdodaepdghlolaaW.PrintMore Go.Proofs.Ytdodaepdghlolaa.Pure
set_option linter.unusedVariables false
set_option linter.unusedSimpArgs false
open Go.Maps (Keyed)
variable {N : Nat} {P P' : Nat → Prop} {w w' : World} {g : Nat} {now turns : Int} {m : Nat} {q d : List Du} {A : Option Addr} {c : Nat}
theorem IsQ.turned (h : IsQ N P w g now turns m q A c) (t : Int) : IsQ N P (w.setCell ⟨g, 1, none⟩ (.int .i64 t)) g now t m q A c :=
  ⟨blk_put h.hg 1 (.int .i64 t) (cs' := #[.int .i64 now, .int .i64 t, .slice A q.length c, .map (some m)]) rfl, h.ng, h.pg, row_far_ h.row h.hg (by decide) 1 _, fun i hi => ⟨blk_far (h.due i hi).1 (p := ⟨g, 1, none⟩) (ne_typed (h.due i hi).1 h.hg (by decide)) _, (h.due i hi).2⟩⟩
theorem IsQ.ticked (h : IsQ N P w g now turns m q A c) (t : Int) : IsQ N P (w.setCell ⟨g, 0, none⟩ (.int .i64 t)) g t turns m q A c :=
  ⟨blk_put h.hg 0 (.int .i64 t) (cs' := #[.int .i64 t, .int .i64 turns, .slice A q.length c, .map (some m)]) rfl, h.ng, h.pg, row_far_ h.row h.hg (by decide) 0 _, fun i hi => ⟨blk_far (h.due i hi).1 (p := ⟨g, 0, none⟩) (ne_typed (h.due i hi).1 h.hg (by decide)) _, (h.due i hi).2⟩⟩
theorem IsQ.rekey (h : IsQ N P w g now turns m q A c) {i : Nat} (hi : i < q.length) (a t : Int) : IsQ N P ((w.setCell ⟨(nth q i).bk, 1, none⟩ (.int .i64 a)).setCell ⟨(nth q i).bk, 2, none⟩ (.int .i64 t)) g now turns m (q.set i ⟨(nth q i).nm, a, t, (nth q i).bk⟩) A c := by
  have hd := (h.due i hi).1
  have hd1 := blk_put hd 1 (.int .i64 a) (cs' := #[.string (nth q i).nm, .int .i64 a, .int .i64 (nth q i).tn, .int .i64 (i : Int)]) rfl
  have hd2 := blk_put hd1 2 (.int .i64 t) (cs' := #[.string (nth q i).nm, .int .i64 a, .int .i64 t, .int .i64 (i : Int)]) rfl
  have L : (q.set i ⟨(nth q i).nm, a, t, (nth q i).bk⟩).length = q.length := by simp
  have M : (q.set i ⟨(nth q i).nm, a, t, (nth q i).bk⟩).map Du.bk = q.map Du.bk := by
    rw [List.map_set]
    apply List.ext_getElem?
    intro k
    by_cases e : i = k
    · subst e
      rw [List.getElem?_set_self (by simpa using hi), List.getElem?_map, List.getElem?_eq_getElem hi, nth_eq hi]
      rfl
    · rw [List.getElem?_set_ne e]
  refine ⟨?_, h.ng, h.pg, ?_, fun k hk => ?_⟩
  · rw [L]
    exact blk_far (blk_far h.hg (p := ⟨_, 1, none⟩) (ne_typed h.hg hd (by decide)) _) (p := ⟨_, 2, none⟩) (ne_typed h.hg hd (by decide)) _
  · rw [L, M]
    exact row_far_ (row_far_ h.row hd (by decide) 1 _) hd1 (by decide) 2 _
  · rw [L] at hk
    rw [nth_set hi]
    by_cases e : k = i
    · subst e
      rw [if_pos rfl]
      exact ⟨hd2, (h.due k hk).2⟩
    · rw [if_neg e]
      have hne : (nth q k).bk ≠ (nth q i).bk := fun e2 => e (h.one hk hi e2)
      exact ⟨blk_far (blk_far (h.due k hk).1 (p := ⟨_, 1, none⟩) hne _) (p := ⟨_, 2, none⟩) hne _, (h.due k hk).2⟩
set_option maxHeartbeats 8000000 in
set_option maxRecDepth 100000 in
theorem set_bad (h : Ck N P w g now turns d) {s : ByteArray} {later : Int} (hb : later < 1 ∨ 1099511627776 - now < later) : Calls Try.prog 10 #[.pointer (some ⟨g, 0, none⟩), .string s, .int .i64 later] w fun e w' => e = .returned (.int .i64 1) ∧ Below w.heap.size w w' := by
  obtain ⟨m, q, A, c, D, h⟩ := h
  have H := Aside0.mk h
  have zc0 : w.cell? ⟨g, 0, none⟩ = some (.int .i64 now) := (blk_cell h.isq.hg 0).trans rfl; have zf0 := blk_frozen h.isq.hg 0; have zc1 : w.cell? ⟨g, 1, none⟩ = some (.int .i64 turns) := (blk_cell h.isq.hg 1).trans rfl; have zf1 := blk_frozen h.isq.hg 1; have zc2 : w.cell? ⟨g, 2, none⟩ = some (.slice A q.length c) := (blk_cell h.isq.hg 2).trans rfl; have zf2 := blk_frozen h.isq.hg 2; have zc3 : w.cell? ⟨g, 3, none⟩ = some (.map (some m)) := (blk_cell h.isq.hg 3).trans rfl; have zf3 := blk_frozen h.isq.hg 3
  have b0 : wrap64 (1099511627776 - now) = 1099511627776 - now := by have := h.good.time; unfold wrap64; omega
  have B0 := Aside0.mk (Below.refl w.heap.size w)
  clear h
  by_cases h1 : later < 1
  · have d1 : decide (later < 1) = true := decide_eq_true h1
    clear h1 hb
    go_enter Try.func10, Try.ntmps10
    go_wp2_with fail
    go_ret
    exact ⟨rfl, B0.out⟩
  have h2 : 1099511627776 - now < later := by omega
  have d1 : decide (later < 1) = false := decide_eq_false h1
  have d2 : decide (later > 1099511627776 - now) = true := decide_eq_true h2
  have d3 : decide (1099511627776 - now < later) = true := decide_eq_true h2
  clear h1 h2 hb
  go_enter Try.func10, Try.ntmps10
  go_wp2_with fail
  go_ret
  exact ⟨rfl, B0.out⟩
set_option maxHeartbeats 8000000 in
set_option maxRecDepth 100000 in
theorem set_full (h : Ck N P w g now turns d) {s : ByteArray} {later : Int} (hlt : 1 ≤ later ∧ later ≤ 1099511627776 - now) (htu : turns < 4611686018427387903) (hs : s.size ≤ 9223372036854775807) (hn : ∀ x ∈ d, x.nm ≠ s) (hl : d.length = 4096) :
    Calls Try.prog 10 #[.pointer (some ⟨g, 0, none⟩), .string s, .int .i64 later] w fun e w' => e = .returned (.int .i64 3) ∧ Ck N P w' g now (turns + 1) d ∧ Below N w w' ∧ Kept w w' P := by
  obtain ⟨m, q, A, c, D, h⟩ := h
  have H := Aside0.mk h
  have zc0 : w.cell? ⟨g, 0, none⟩ = some (.int .i64 now) := (blk_cell h.isq.hg 0).trans rfl; have zf0 := blk_frozen h.isq.hg 0; have zc1 : w.cell? ⟨g, 1, none⟩ = some (.int .i64 turns) := (blk_cell h.isq.hg 1).trans rfl; have zf1 := blk_frozen h.isq.hg 1; have zc2 : w.cell? ⟨g, 2, none⟩ = some (.slice A q.length c) := (blk_cell h.isq.hg 2).trans rfl; have zf2 := blk_frozen h.isq.hg 2; have zc3 : w.cell? ⟨g, 3, none⟩ = some (.map (some m)) := (blk_cell h.isq.hg 3).trans rfl; have zf3 := blk_frozen h.isq.hg 3
  have b0 : wrap64 (1099511627776 - now) = 1099511627776 - now := by have := h.good.time; unfold wrap64; omega
  have d1 : decide (later < 1) = false := decide_eq_false (by omega)
  have d2 : decide (later > 1099511627776 - now) = false := decide_eq_false (by omega)
  have d3 : decide (1099511627776 - now < later) = false := decide_eq_false (by omega)
  have b1 : wrap64 (turns + 1) = turns + 1 := by have := h.good.time; unfold wrap64; omega
  have b2 : wrap64 (now + later) = now + later := by have := h.good.time; unfold wrap64; omega
  have HLT := Aside0.mk hlt; have HTU := Aside0.mk htu
  have hp0 := h.isq.pg
  go_enter Try.func10, Try.ntmps10
  go_upto_region 4 with fail
  have Q1 := Aside0.mk (h.isq.turned (turns + 1))
  have B1 := Aside0.mk (below_setB (Below.refl N w) (p := ⟨g, 1, none⟩) h.isq.ng (.int .i64 (turns + 1)))
  have K1 := Aside0.mk ((Kept.refl w (fun k => P k ∧ k ≠ m)).setCell (p := ⟨g, 1, none⟩) (.inl hp0) (.int .i64 (turns + 1)))
  have S1 := Aside0.mk (show (w.setCell ⟨g, 1, none⟩ (.int .i64 (turns + 1))).heap.size = w.heap.size by simp [World.setCell])
  clear zc0 zf0 zc1 zf1 zc2 zf2 zc3 zf3
  generalize w.setCell ⟨g, 1, none⟩ (.int .i64 (turns + 1)) = w1 at Q1 B1 K1 S1 ⊢
  have M1 := Aside0.mk (h.map.keep (K1.out.2 m h.map.lt (fun q => q.2 rfl)))
  have hlk := look_no M1.out hn hs
  have zc0 : w1.cell? ⟨g, 0, none⟩ = some (.int .i64 now) := (blk_cell Q1.out.hg 0).trans rfl; have zf0 := blk_frozen Q1.out.hg 0; have zc1 : w1.cell? ⟨g, 1, none⟩ = some (.int .i64 (turns + 1)) := (blk_cell Q1.out.hg 1).trans rfl; have zf1 := blk_frozen Q1.out.hg 1; have zc2 : w1.cell? ⟨g, 2, none⟩ = some (.slice A q.length c) := (blk_cell Q1.out.hg 2).trans rfl; have zf2 := blk_frozen Q1.out.hg 2; have zc3 : w1.cell? ⟨g, 3, none⟩ = some (.map (some m)) := (blk_cell Q1.out.hg 3).trans rfl; have zf3 := blk_frozen Q1.out.hg 3
  have HQL := Aside0.mk (show q.length = 4096 by rw [h.perm.length_eq]; exact hl)
  have b3 : (((q.length : Nat) : Int) == 4096) = true := beq_iff_eq.mpr (by rw [HQL.out]; rfl)
  clear h hs hn hl hlt htu hp0
  go_wp2_with fail
  go_ret
  exact ⟨rfl, ⟨m, q, A, c, D, Q1.out, H.out.perm, H.out.hp, M1.out, H.out.nm, H.out.pm, H.out.good.turns_up⟩, B1.out, K1.out.mono (fun k hk => hk.1)⟩
set_option maxHeartbeats 8000000 in
set_option maxRecDepth 100000 in
theorem set_again (h : Ck N P w g now turns d) {x : Du} {later : Int} (hlt : 1 ≤ later ∧ later ≤ 1099511627776 - now) (htu : turns < 4611686018427387903) (hx : x ∈ d) :
    Calls Try.prog 10 #[.pointer (some ⟨g, 0, none⟩), .string x.nm, .int .i64 later] w fun e w' => e = .returned (.int .i64 0) ∧ Ck N P w' g now (turns + 1) (but d x.nm ++ [⟨x.nm, now + later, turns + 1, x.bk⟩]) ∧ Below N w w' ∧ Kept w w' P := by
  obtain ⟨m, q, A, c, D, h⟩ := h
  have H := Aside0.mk h
  have zc0 : w.cell? ⟨g, 0, none⟩ = some (.int .i64 now) := (blk_cell h.isq.hg 0).trans rfl; have zf0 := blk_frozen h.isq.hg 0; have zc1 : w.cell? ⟨g, 1, none⟩ = some (.int .i64 turns) := (blk_cell h.isq.hg 1).trans rfl; have zf1 := blk_frozen h.isq.hg 1; have zc2 : w.cell? ⟨g, 2, none⟩ = some (.slice A q.length c) := (blk_cell h.isq.hg 2).trans rfl; have zf2 := blk_frozen h.isq.hg 2; have zc3 : w.cell? ⟨g, 3, none⟩ = some (.map (some m)) := (blk_cell h.isq.hg 3).trans rfl; have zf3 := blk_frozen h.isq.hg 3
  have b0 : wrap64 (1099511627776 - now) = 1099511627776 - now := by have := h.good.time; unfold wrap64; omega
  have d1 : decide (later < 1) = false := decide_eq_false (by omega)
  have d2 : decide (later > 1099511627776 - now) = false := decide_eq_false (by omega)
  have d3 : decide (1099511627776 - now < later) = false := decide_eq_false (by omega)
  have b1 : wrap64 (turns + 1) = turns + 1 := by have := h.good.time; unfold wrap64; omega
  have b2 : wrap64 (now + later) = now + later := by have := h.good.time; unfold wrap64; omega
  have HLT := Aside0.mk hlt; have HTU := Aside0.mk htu
  have hp0 := h.isq.pg
  go_enter Try.func10, Try.ntmps10
  go_upto_region 4 with fail
  have Q1 := Aside0.mk (h.isq.turned (turns + 1))
  have B1 := Aside0.mk (below_setB (Below.refl N w) (p := ⟨g, 1, none⟩) h.isq.ng (.int .i64 (turns + 1)))
  have K1 := Aside0.mk ((Kept.refl w (fun k => P k ∧ k ≠ m)).setCell (p := ⟨g, 1, none⟩) (.inl hp0) (.int .i64 (turns + 1)))
  have S1 := Aside0.mk (show (w.setCell ⟨g, 1, none⟩ (.int .i64 (turns + 1))).heap.size = w.heap.size by simp [World.setCell])
  clear zc0 zf0 zc1 zf1 zc2 zf2 zc3 zf3
  generalize w.setCell ⟨g, 1, none⟩ (.int .i64 (turns + 1)) = w1 at Q1 B1 K1 S1 ⊢
  have M1 := Aside0.mk (h.map.keep (K1.out.2 m h.map.lt (fun q => q.2 rfl)))
  have hlk := look_yes M1.out hx (h.good.all x hx).2.2.2.2
  have zc0 : w1.cell? ⟨g, 0, none⟩ = some (.int .i64 now) := (blk_cell Q1.out.hg 0).trans rfl; have zf0 := blk_frozen Q1.out.hg 0; have zc1 : w1.cell? ⟨g, 1, none⟩ = some (.int .i64 (turns + 1)) := (blk_cell Q1.out.hg 1).trans rfl; have zf1 := blk_frozen Q1.out.hg 1; have zc2 : w1.cell? ⟨g, 2, none⟩ = some (.slice A q.length c) := (blk_cell Q1.out.hg 2).trans rfl; have zf2 := blk_frozen Q1.out.hg 2; have zc3 : w1.cell? ⟨g, 3, none⟩ = some (.map (some m)) := (blk_cell Q1.out.hg 3).trans rfl; have zf3 := blk_frozen Q1.out.hg 3
  obtain ⟨i, hi, e⟩ := mem_at (h.perm.mem_iff.2 hx)
  have hd := (Q1.out.due i hi).1
  rw [e] at hd
  have HE := Aside0.mk e; have HI := Aside0.mk hi; have HX := Aside0.mk hx
  have HPB := Aside0.mk (show P x.bk ∧ x.bk ≠ m ∧ N ≤ x.bk by have := h.isq.due i hi; rw [e] at this; exact ⟨this.2.2.1, this.2.2.2, this.2.1⟩)
  have QR := Aside0.mk (Q1.out.rekey hi (now + later) (turns + 1))
  rw [e] at QR
  obtain ⟨b, hb⟩ : ∃ b, b = x.bk := ⟨_, rfl⟩
  rw [← hb] at hlk hd HPB QR
  have HB := Aside0.mk hb
  have fz1 := blk_frozen hd 1; have fz2 := blk_frozen hd 2
  have y1 : w1.cell? ⟨b, 1, none⟩ = some (.int .i64 x.at_) := (blk_cell hd 1).trans rfl
  have y2 : w1.cell? ⟨b, 2, none⟩ = some (.int .i64 x.tn) := (blk_cell hd 2).trans rfl
  clear h hi e hx hd hb hlt htu hp0
  go_wp2_with fail
  refine start_ (n := 18) (S := fun w' => w'.cell? ⟨g, 0, none⟩ = some (.int .i64 now) ∧ w'.cell? ⟨g, 1, none⟩ = some (.int .i64 (turns + 1))) (ds := [14, 17]) #[false, false, false, false, false, false, false, false, false, false, false, false, false, false, false, false, false, false] (by kernel_rfl) rfl rfl ⟨(blk_cell (blk_drew Q1.out.hg) 0).trans rfl, (blk_cell (blk_drew Q1.out.hg) 1).trans rfl⟩ (fun hHeld => ?_)
  refine pure_ (i := 0) (N := some 38) (v := ?_) (a' := ?_) #[true, false, false, false, false, false, false, false, false, false, false, false, false, false, false, false, false, false] rfl rfl (by kernel_rfl) (fun _ _ _ h => h) (Or.inl ⟨by rfl, ?_⟩) ?_ ?_
  rotate_left
  · intro w'
    go_simp
    with_reducible rfl
  rotate_left
  · simp only [Act.put, List.setIfInBounds_toArray, List.set_cons_zero, List.set_cons_succ, i64_w, i32_w]
    rfl
  refine pure_ (i := 1) (N := some 39) (v := ?_) (a' := ?_) #[true, true, false, false, false, false, false, false, false, false, false, false, false, false, false, false, false, false] rfl rfl (by kernel_rfl) (fun _ _ _ h => h) (Or.inl ⟨by rfl, ?_⟩) ?_ ?_
  rotate_left
  · intro w'
    go_simp
    with_reducible rfl
  rotate_left
  · simp only [Act.put, List.setIfInBounds_toArray, List.set_cons_zero, List.set_cons_succ, i64_w, i32_w]
    rfl
  refine pure_ (i := 2) (N := some 40) (v := ?_) (a' := ?_) #[true, true, true, false, false, false, false, false, false, false, false, false, false, false, false, false, false, false] rfl rfl (by kernel_rfl) (fun _ _ _ h => h) (Or.inl ⟨by rfl, ?_⟩) ?_ ?_
  rotate_left
  · intro w'
    go_simp
    with_reducible rfl
  rotate_left
  · simp only [Act.put, List.setIfInBounds_toArray, List.set_cons_zero, List.set_cons_succ, i64_w, i32_w]
    rfl
  refine pure_ (i := 3) (N := some 41) (v := ?_) (a' := ?_) #[true, true, true, true, false, false, false, false, false, false, false, false, false, false, false, false, false, false] rfl rfl (by kernel_rfl) (fun _ _ _ h => h) (Or.inl ⟨by rfl, ?_⟩) ?_ ?_
  rotate_left
  · intro w'
    go_simp
    with_reducible rfl
  rotate_left
  · simp only [Act.put, List.setIfInBounds_toArray, List.set_cons_zero, List.set_cons_succ, i64_w, i32_w]
    rfl
  refine pure_ (i := 4) (N := some 42) (v := ?_) (a' := ?_) #[true, true, true, true, true, false, false, false, false, false, false, false, false, false, false, false, false, false] rfl rfl (by kernel_rfl) (fun _ _ _ h => h) (Or.inl ⟨by rfl, ?_⟩) ?_ ?_
  rotate_left
  · intro w'
    go_simp
    with_reducible rfl
  rotate_left
  · simp only [Act.put, List.setIfInBounds_toArray, List.set_cons_zero, List.set_cons_succ, i64_w, i32_w]
    rfl
  refine pure_ (i := 6) (N := some 44) (v := ?_) (a' := ?_) #[true, true, true, true, true, false, true, false, false, false, false, false, false, false, false, false, false, false] rfl rfl (by kernel_rfl) (fun _ _ _ h => h) (Or.inl ⟨by rfl, ?_⟩) ?_ ?_
  rotate_left
  · intro w'
    go_simp
    with_reducible rfl
  rotate_left
  · simp only [Act.put, List.setIfInBounds_toArray, List.set_cons_zero, List.set_cons_succ, i64_w, i32_w]
    rfl
  refine pure_ (i := 8) (N := some 46) (v := ?_) (a' := ?_) #[true, true, true, true, true, false, true, false, true, false, false, false, false, false, false, false, false, false] rfl rfl (by kernel_rfl) (fun _ _ _ h => h) (Or.inl ⟨by rfl, ?_⟩) ?_ ?_
  rotate_left
  · intro w'
    go_simp
    with_reducible rfl
  rotate_left
  · simp only [Act.put, List.setIfInBounds_toArray, List.set_cons_zero, List.set_cons_succ, i64_w, i32_w]
    rfl
  refine pure_ (i := 9) (N := some 47) (v := ?_) (a' := ?_) #[true, true, true, true, true, false, true, false, true, true, false, false, false, false, false, false, false, false] rfl rfl (by kernel_rfl) (fun _ _ _ h => h) (Or.inl ⟨by rfl, ?_⟩) ?_ ?_
  rotate_left
  · intro w'
    go_simp
    with_reducible rfl
  rotate_left
  · simp only [Act.put, List.setIfInBounds_toArray, List.set_cons_zero, List.set_cons_succ, i64_w, i32_w]
    rfl
  refine pure_ (i := 10) (N := some 48) (v := ?_) (a' := ?_) #[true, true, true, true, true, false, true, false, true, true, true, false, false, false, false, false, false, false] rfl rfl (by kernel_rfl) (fun _ _ _ h => h) (Or.inl ⟨by rfl, ?_⟩) ?_ ?_
  rotate_left
  · intro w'
    go_simp
    with_reducible rfl
  rotate_left
  · simp only [Act.put, List.setIfInBounds_toArray, List.set_cons_zero, List.set_cons_succ, i64_w, i32_w]
    rfl
  refine take_ (i := 5) (N := some 43) (v := ?_) (a' := ?_) #[true, true, true, true, true, true, true, false, true, true, true, false, false, false, false, false, false, false] rfl rfl (by kernel_rfl) (fun _ _ _ h => h) (Or.inl ⟨by rfl, ?_⟩) hHeld ?_ ?_
  rotate_left
  · rintro w' ⟨s0, s1⟩
    go_simp
    with_reducible rfl
  rotate_left
  · simp only [Act.put, List.setIfInBounds_toArray, List.set_cons_zero, List.set_cons_succ, i64_w, i32_w]
    rfl
  refine pure_ (i := 7) (N := some 45) (v := ?_) (a' := ?_) #[true, true, true, true, true, true, true, true, true, true, true, false, false, false, false, false, false, false] rfl rfl (by kernel_rfl) (fun _ _ _ h => h) (Or.inl ⟨by rfl, ?_⟩) ?_ ?_
  rotate_left
  · intro w'
    go_simp
    with_reducible rfl
  rotate_left
  · simp only [Act.put, List.setIfInBounds_toArray, List.set_cons_zero, List.set_cons_succ, i64_w, i32_w]
    rfl
  refine take_ (i := 11) (N := some 49) (v := ?_) (a' := ?_) #[true, true, true, true, true, true, true, true, true, true, true, true, false, false, false, false, false, false] rfl rfl (by kernel_rfl) (fun _ _ _ h => h) (Or.inl ⟨by rfl, ?_⟩) hHeld ?_ ?_
  rotate_left
  · rintro w' ⟨s0, s1⟩
    go_simp
    with_reducible rfl
  rotate_left
  · simp only [Act.put, List.setIfInBounds_toArray, List.set_cons_zero, List.set_cons_succ, i64_w, i32_w]
    rfl
  refine pure_ (i := 12) (N := some 50) (v := ?_) (a' := ?_) #[true, true, true, true, true, true, true, true, true, true, true, true, true, false, false, false, false, false] rfl rfl (by kernel_rfl) (fun _ _ _ h => h) (Or.inl ⟨by rfl, ?_⟩) ?_ ?_
  rotate_left
  · intro w'
    go_simp
    with_reducible rfl
  rotate_left
  · simp only [Act.put, List.setIfInBounds_toArray, List.set_cons_zero, List.set_cons_succ, i64_w, i32_w]
    rfl
  refine pure_ (i := 13) (N := some 51) (v := ?_) (a' := ?_) #[true, true, true, true, true, true, true, true, true, true, true, true, true, true, false, false, false, false] rfl rfl (by kernel_rfl) (fun _ _ _ h => h) (Or.inl ⟨by rfl, ?_⟩) ?_ ?_
  rotate_left
  · intro w'
    go_simp
    with_reducible rfl
  rotate_left
  · simp only [Act.put, List.setIfInBounds_toArray, List.set_cons_zero, List.set_cons_succ, i64_w, i32_w]
    rfl
  refine last_ (i := 14) (N := none) #[true, true, true, true, true, true, true, true, true, true, true, true, true, true, true, false, false, false] rfl rfl (by kernel_rfl) (by decide) (fun K hK => ?_)
  refine skip_ (w1 := ?_) (by rfl) rfl ?_ ?_
  rotate_left
  · go_simp
    rfl
  refine hK.out _ _ ?_
  clear hK K
  refine pure_ (i := 15) (N := some 52) (v := ?_) (a' := ?_) #[true, true, true, true, true, true, true, true, true, true, true, true, true, true, true, true, false, false] rfl rfl (by kernel_rfl) (fun _ _ _ h => h) (Or.inl ⟨by rfl, ?_⟩) ?_ ?_
  rotate_left
  · intro w'
    go_simp
    with_reducible rfl
  rotate_left
  · simp only [Act.put, List.setIfInBounds_toArray, List.set_cons_zero, List.set_cons_succ, i64_w, i32_w]
    rfl
  refine pure_ (i := 16) (N := some 53) (v := ?_) (a' := ?_) #[true, true, true, true, true, true, true, true, true, true, true, true, true, true, true, true, true, false] rfl rfl (by kernel_rfl) (fun _ _ _ h => h) (Or.inl ⟨by rfl, ?_⟩) ?_ ?_
  rotate_left
  · intro w'
    go_simp
    with_reducible rfl
  rotate_left
  · simp only [Act.put, List.setIfInBounds_toArray, List.set_cons_zero, List.set_cons_succ, i64_w, i32_w]
    rfl
  refine last_ (i := 17) (N := none) #[true, true, true, true, true, true, true, true, true, true, true, true, true, true, true, true, true, true] rfl rfl (by kernel_rfl) (by decide) (fun K hK => ?_)
  refine skip_ (w1 := ?_) (by rfl) rfl ?_ ?_
  rotate_left
  · go_simp
    rfl
  refine hK.out _ _ ?_
  clear hK K
  refine done_ (by kernel_rfl) ?_
  go_wp2_with fail
  have B2 := Aside0.mk (below_setB (below_setB B1.out (p := ⟨b, 1, none⟩) HPB.out.2.2 (.int .i64 (now + later))) (p := ⟨b, 2, none⟩) HPB.out.2.2 (.int .i64 (turns + 1)))
  have K2 := Aside0.mk ((K1.out.setCell (p := ⟨b, 1, none⟩) (.inl ⟨HPB.out.1, HPB.out.2.1⟩) (.int .i64 (now + later))).setCell (p := ⟨b, 2, none⟩) (.inl ⟨HPB.out.1, HPB.out.2.1⟩) (.int .i64 (turns + 1)))
  clear hHeld hlk y1 y2 fz1 fz2 zc0 zf0 zc1 zf1 zc2 zf2 zc3 zf3 Q1 B1 K1 M1
  generalize (w1.setCell ⟨b, 1, none⟩ (.int .i64 (now + later))).setCell ⟨b, 2, none⟩ (.int .i64 (turns + 1)) = w2 at QR B2 K2 ⊢
  obtain ⟨q2, hq2⟩ : ∃ q2, q2 = q.set i ⟨x.nm, now + later, turns + 1, b⟩ := ⟨_, rfl⟩
  rw [← hq2] at QR
  have HLQ := Aside0.mk (show q2.length = q.length by rw [hq2]; simp)
  have hn2 : nth q2 i = ⟨x.nm, now + later, turns + 1, b⟩ := by rw [hq2, nth_set HI.out, if_pos rfl]
  have HI2 := Aside0.mk (show i < q2.length by rw [HLQ.out]; exact HI.out)
  have y3 : w2.cell? ⟨b, 3, none⟩ = some (.int .i64 (i : Int)) := by
    have := (QR.out.due i HI2.out).1
    rw [hn2] at this
    exact (blk_cell this 3).trans rfl
  have HBO := Aside0.mk (show HBo q2 q2.length i from hp_both (q := q) (by rw [HLQ.out]; exact H.out.hp) (fun k hk => by unfold kq; rw [hq2, nth_set HI.out, if_neg hk]))
  have HG2 := Aside0.mk (show Good now (turns + 1) (but d x.nm ++ [⟨x.nm, now + later, turns + 1, b⟩]) from H.out.good.put (by have := HLT.out; have := H.out.good.time; omega) (H.out.good.all x HX.out).2.2.2.2 (by have := but_len HX.out H.out.good.names; have := H.out.good.len; omega))
  have HPM := Aside0.mk (show q2.Perm (but d x.nm ++ [⟨x.nm, now + later, turns + 1, b⟩]) from by
    obtain ⟨rest, r1, r2⟩ := set_perm HI.out ⟨x.nm, now + later, turns + 1, b⟩
    rw [← hq2] at r2
    rw [HE.out] at r1
    exact r2.symm.trans ((but_perm r1 H.out.perm H.out.good.names).append_right _))
  have HTK := Aside0.mk (show TOk q2 from HG2.out.tok (Int.add_lt_of_lt_sub_right HTU.out) HPM.out)
  have HL4 := Aside0.mk (show q2.length ≤ 4097 by rw [HLQ.out, H.out.perm.length_eq]; have := H.out.good.len; omega)
  clear hn2
  have HQ2 := Aside0.mk hq2
  clear hq2
  refine start_ (n := 9) (S := fun w' => w'.cell? ⟨b, 3, none⟩ = some (.int .i64 (i : Int))) (ds := [8]) #[false, false, false, false, false, false, false, false, false] (by kernel_rfl) rfl rfl (y3) (fun hHeld => ?_)
  refine pure_ (i := 0) (N := some 54) (v := ?_) (a' := ?_) #[true, false, false, false, false, false, false, false, false] rfl rfl (by kernel_rfl) (fun _ _ _ h => h) (Or.inl ⟨by rfl, ?_⟩) ?_ ?_
  rotate_left
  · intro w'
    go_simp
    with_reducible rfl
  rotate_left
  · simp only [Act.put, List.setIfInBounds_toArray, List.set_cons_zero, List.set_cons_succ, i64_w, i32_w]
    rfl
  refine pure_ (i := 1) (N := some 55) (v := ?_) (a' := ?_) #[true, true, false, false, false, false, false, false, false] rfl rfl (by kernel_rfl) (fun _ _ _ h => h) (Or.inl ⟨by rfl, ?_⟩) ?_ ?_
  rotate_left
  · intro w'
    go_simp
    with_reducible rfl
  rotate_left
  · simp only [Act.put, List.setIfInBounds_toArray, List.set_cons_zero, List.set_cons_succ, i64_w, i32_w]
    rfl
  refine pure_ (i := 2) (N := some 56) (v := ?_) (a' := ?_) #[true, true, true, false, false, false, false, false, false] rfl rfl (by kernel_rfl) (fun _ _ _ h => h) (Or.inl ⟨by rfl, ?_⟩) ?_ ?_
  rotate_left
  · intro w'
    go_simp
    with_reducible rfl
  rotate_left
  · simp only [Act.put, List.setIfInBounds_toArray, List.set_cons_zero, List.set_cons_succ, i64_w, i32_w]
    rfl
  refine pure_ (i := 3) (N := some 57) (v := ?_) (a' := ?_) #[true, true, true, true, false, false, false, false, false] rfl rfl (by kernel_rfl) (fun _ _ _ h => h) (Or.inl ⟨by rfl, ?_⟩) ?_ ?_
  rotate_left
  · intro w'
    go_simp
    with_reducible rfl
  rotate_left
  · simp only [Act.put, List.setIfInBounds_toArray, List.set_cons_zero, List.set_cons_succ, i64_w, i32_w]
    rfl
  refine pure_ (i := 4) (N := some 58) (v := ?_) (a' := ?_) #[true, true, true, true, true, false, false, false, false] rfl rfl (by kernel_rfl) (fun _ _ _ h => h) (Or.inl ⟨by rfl, ?_⟩) ?_ ?_
  rotate_left
  · intro w'
    go_simp
    with_reducible rfl
  rotate_left
  · simp only [Act.put, List.setIfInBounds_toArray, List.set_cons_zero, List.set_cons_succ, i64_w, i32_w]
    rfl
  refine pure_ (i := 5) (N := some 59) (v := ?_) (a' := ?_) #[true, true, true, true, true, true, false, false, false] rfl rfl (by kernel_rfl) (fun _ _ _ h => h) (Or.inl ⟨by rfl, ?_⟩) ?_ ?_
  rotate_left
  · intro w'
    go_simp
    with_reducible rfl
  rotate_left
  · simp only [Act.put, List.setIfInBounds_toArray, List.set_cons_zero, List.set_cons_succ, i64_w, i32_w]
    rfl
  refine pure_ (i := 6) (N := some 60) (v := ?_) (a' := ?_) #[true, true, true, true, true, true, true, false, false] rfl rfl (by kernel_rfl) (fun _ _ _ h => h) (Or.inl ⟨by rfl, ?_⟩) ?_ ?_
  rotate_left
  · intro w'
    go_simp
    with_reducible rfl
  rotate_left
  · simp only [Act.put, List.setIfInBounds_toArray, List.set_cons_zero, List.set_cons_succ, i64_w, i32_w]
    rfl
  refine take_ (i := 7) (N := some 61) (v := ?_) (a' := ?_) #[true, true, true, true, true, true, true, true, false] rfl rfl (by kernel_rfl) (fun _ _ _ h => h) (Or.inl ⟨by rfl, ?_⟩) hHeld ?_ ?_
  rotate_left
  · intro w' s0
    go_simp
    with_reducible rfl
  rotate_left
  · simp only [Act.put, List.setIfInBounds_toArray, List.set_cons_zero, List.set_cons_succ, i64_w, i32_w]
    rfl
  refine last_ (i := 8) (N := some 62) #[true, true, true, true, true, true, true, true, true] rfl rfl (by kernel_rfl) (by decide) (fun K hK => ?_)
  refine goes_ Try.func20 (by kernel_rfl) rfl #[.iface 65 (.pointer (some ⟨g, 2, none⟩)), .int .i64 (i : Int)] (by rfl) rfl rfl (by simp only [List.map_toArray, List.map_cons, List.map_nil]; rfl) ?_
  with_reducible refine (fix_calls (w := w2.drew.drew) QR.out.drew.drew HI2.out HBO.out HTK.out HL4.out).mono ?_
  rintro y w3 ⟨rfl, ⟨q3, hI, hp, hh⟩, hb, hk⟩
  refine ⟨_, rfl, ?_⟩
  have Q3 := Aside0.mk hI; have B3 := Aside0.mk ((below_drew (below_drew B2.out)).trans hb); have K3 := Aside0.mk ((K2.out.drew.drew).then_ hk (fun k hk => .inl hk)); have HP3 := Aside0.mk hp; have HH3 := Aside0.mk hh
  clear hI hp hh hb hk
  refine hK.out _ _ ?_
  clear hK K
  refine norm_ (a' := ?_) ?_ ?_
  rotate_left
  · show Act.put _ (some 62) _ = _
    simp only [Act.put, List.setIfInBounds_toArray, List.set_cons_zero, List.set_cons_succ, i64_w, i32_w]
    rfl
  refine done_ (by kernel_rfl) ?_
  go_wp2_with fail
  go_ret
  have hm2 := H.out.map.keep (K3.out.2 m H.out.map.lt (fun q => q.2 rfl))
  refine ⟨rfl, ⟨m, q3, A, c, D, Q3.out, ?_, HH3.out, ⟨?_, ?_⟩, H.out.nm, H.out.pm, ?_⟩, B3.out, K3.out.mono (fun k hk => hk.1)⟩
  · rw [← HB.out]; exact HP3.out.trans HPM.out
  · have e2 : (but d x.nm ++ [(⟨x.nm, now + later, turns + 1, x.bk⟩ : Du)]).length = d.length := by rw [List.length_append, List.length_singleton, but_len HX.out H.out.good.names]
    rw [e2]; exact hm2.own
  · exact H.out.map.ok.reset H.out.good.names HX.out rfl rfl
  · rw [← HB.out]; exact HG2.out
theorem below_grownN {N : Nat} {w W W1 : World} {row : Option Nat} (h : Below N w W) (hN : N ≤ W.heap.size) (hg : W.grownBy W1 row) (hr : ∀ k, row = some k → N ≤ k) : Below N w W1 :=
  h.trans ⟨hg.os, hg.tape, hg.output, hg.size, fun k hk => hg.block k (Nat.lt_of_lt_of_le hk hN) (fun e => by have := hr k e.symm; omega)⟩
set_option maxHeartbeats 8000000 in
set_option maxRecDepth 100000 in
theorem set_new (h : Ck N P w g now turns d) {s : ByteArray} {later : Int} (hlt : 1 ≤ later ∧ later ≤ 1099511627776 - now) (htu : turns < 4611686018427387903) (hs : s.size ≤ 9223372036854775807) (hn : ∀ x ∈ d, x.nm ≠ s) (hl : d.length < 4096) :
    Calls Try.prog 10 #[.pointer (some ⟨g, 0, none⟩), .string s, .int .i64 later] w fun e w' => e = .returned (.int .i64 0) ∧ (∃ b, Ck N (fun k => P k ∨ w.heap.size ≤ k) w' g now (turns + 1) (d ++ [⟨s, now + later, turns + 1, b⟩])) ∧ Below N w w' ∧ Kept w w' P := by
  obtain ⟨m, q, A, c, D, h⟩ := h
  have H := Aside0.mk h
  have zc0 : w.cell? ⟨g, 0, none⟩ = some (.int .i64 now) := (blk_cell h.isq.hg 0).trans rfl; have zf0 := blk_frozen h.isq.hg 0; have zc1 : w.cell? ⟨g, 1, none⟩ = some (.int .i64 turns) := (blk_cell h.isq.hg 1).trans rfl; have zf1 := blk_frozen h.isq.hg 1; have zc2 : w.cell? ⟨g, 2, none⟩ = some (.slice A q.length c) := (blk_cell h.isq.hg 2).trans rfl; have zf2 := blk_frozen h.isq.hg 2; have zc3 : w.cell? ⟨g, 3, none⟩ = some (.map (some m)) := (blk_cell h.isq.hg 3).trans rfl; have zf3 := blk_frozen h.isq.hg 3
  have b0 : wrap64 (1099511627776 - now) = 1099511627776 - now := by have := h.good.time; unfold wrap64; omega
  have d1 : decide (later < 1) = false := decide_eq_false (by omega)
  have d2 : decide (later > 1099511627776 - now) = false := decide_eq_false (by omega)
  have d3 : decide (1099511627776 - now < later) = false := decide_eq_false (by omega)
  have b1 : wrap64 (turns + 1) = turns + 1 := by have := h.good.time; unfold wrap64; omega
  have b2 : wrap64 (now + later) = now + later := by have := h.good.time; unfold wrap64; omega
  have HLT := Aside0.mk hlt; have HTU := Aside0.mk htu
  have hp0 := h.isq.pg
  go_enter Try.func10, Try.ntmps10
  go_upto_region 4 with fail
  have Q1 := Aside0.mk (h.isq.turned (turns + 1))
  have B1 := Aside0.mk (below_setB (Below.refl N w) (p := ⟨g, 1, none⟩) h.isq.ng (.int .i64 (turns + 1)))
  have K1 := Aside0.mk ((Kept.refl w (fun k => P k ∧ k ≠ m)).setCell (p := ⟨g, 1, none⟩) (.inl hp0) (.int .i64 (turns + 1)))
  have S1 := Aside0.mk (show (w.setCell ⟨g, 1, none⟩ (.int .i64 (turns + 1))).heap.size = w.heap.size by simp [World.setCell])
  clear zc0 zf0 zc1 zf1 zc2 zf2 zc3 zf3
  generalize w.setCell ⟨g, 1, none⟩ (.int .i64 (turns + 1)) = w1 at Q1 B1 K1 S1 ⊢
  have M1 := Aside0.mk (h.map.keep (K1.out.2 m h.map.lt (fun q => q.2 rfl)))
  have hlk := look_no M1.out hn hs
  have zc0 : w1.cell? ⟨g, 0, none⟩ = some (.int .i64 now) := (blk_cell Q1.out.hg 0).trans rfl; have zf0 := blk_frozen Q1.out.hg 0; have zc1 : w1.cell? ⟨g, 1, none⟩ = some (.int .i64 (turns + 1)) := (blk_cell Q1.out.hg 1).trans rfl; have zf1 := blk_frozen Q1.out.hg 1; have zc2 : w1.cell? ⟨g, 2, none⟩ = some (.slice A q.length c) := (blk_cell Q1.out.hg 2).trans rfl; have zf2 := blk_frozen Q1.out.hg 2; have zc3 : w1.cell? ⟨g, 3, none⟩ = some (.map (some m)) := (blk_cell Q1.out.hg 3).trans rfl; have zf3 := blk_frozen Q1.out.hg 3
  have HQL := Aside0.mk (show q.length = d.length from h.perm.length_eq)
  have b3 : (((q.length : Nat) : Int) == 4096) = false := beq_eq_false_iff_ne.mpr (by rw [HQL.out]; omega)
  have HS := Aside0.mk hs; have HN := Aside0.mk hn; have HL := Aside0.mk hl
  clear h hs hn hl hlt htu hp0
  go_wp2_with fail
  refine start_ (n := 14) (S := fun w' => w'.cell? ⟨g, 0, none⟩ = some (.int .i64 now) ∧ w'.cell? ⟨g, 1, none⟩ = some (.int .i64 (turns + 1))) (ds := []) #[false, false, false, false, false, false, false, false, false, false, false, false, false, false] (by kernel_rfl) rfl rfl ⟨(blk_cell (blk_drew Q1.out.hg) 0).trans rfl, (blk_cell (blk_drew Q1.out.hg) 1).trans rfl⟩ (fun hHeld => ?_)
  refine pure_ (i := 0) (N := some 69) (v := ?_) (a' := ?_) #[true, false, false, false, false, false, false, false, false, false, false, false, false, false] rfl rfl (by kernel_rfl) (fun _ _ _ h => h) (Or.inl ⟨by rfl, ?_⟩) ?_ ?_
  rotate_left
  · intro w'
    go_simp
    with_reducible rfl
  rotate_left
  · simp only [Act.put, List.setIfInBounds_toArray, List.set_cons_zero, List.set_cons_succ, i64_w, i32_w]
    rfl
  refine pure_ (i := 1) (N := some 70) (v := ?_) (a' := ?_) #[true, true, false, false, false, false, false, false, false, false, false, false, false, false] rfl rfl (by kernel_rfl) (fun _ _ _ h => h) (Or.inl ⟨by rfl, ?_⟩) ?_ ?_
  rotate_left
  · intro w'
    go_simp
    with_reducible rfl
  rotate_left
  · simp only [Act.put, List.setIfInBounds_toArray, List.set_cons_zero, List.set_cons_succ, i64_w, i32_w]
    rfl
  refine pure_ (i := 2) (N := some 71) (v := ?_) (a' := ?_) #[true, true, true, false, false, false, false, false, false, false, false, false, false, false] rfl rfl (by kernel_rfl) (fun _ _ _ h => h) (Or.inl ⟨by rfl, ?_⟩) ?_ ?_
  rotate_left
  · intro w'
    go_simp
    with_reducible rfl
  rotate_left
  · simp only [Act.put, List.setIfInBounds_toArray, List.set_cons_zero, List.set_cons_succ, i64_w, i32_w]
    rfl
  refine pure_ (i := 3) (N := some 72) (v := ?_) (a' := ?_) #[true, true, true, true, false, false, false, false, false, false, false, false, false, false] rfl rfl (by kernel_rfl) (fun _ _ _ h => h) (Or.inl ⟨by rfl, ?_⟩) ?_ ?_
  rotate_left
  · intro w'
    go_simp
    with_reducible rfl
  rotate_left
  · simp only [Act.put, List.setIfInBounds_toArray, List.set_cons_zero, List.set_cons_succ, i64_w, i32_w]
    rfl
  refine pure_ (i := 5) (N := some 74) (v := ?_) (a' := ?_) #[true, true, true, true, false, true, false, false, false, false, false, false, false, false] rfl rfl (by kernel_rfl) (fun _ _ _ h => h) (Or.inl ⟨by rfl, ?_⟩) ?_ ?_
  rotate_left
  · intro w'
    go_simp
    with_reducible rfl
  rotate_left
  · simp only [Act.put, List.setIfInBounds_toArray, List.set_cons_zero, List.set_cons_succ, i64_w, i32_w]
    rfl
  refine pure_ (i := 7) (N := some 76) (v := ?_) (a' := ?_) #[true, true, true, true, false, true, false, true, false, false, false, false, false, false] rfl rfl (by kernel_rfl) (fun _ _ _ h => h) (Or.inl ⟨by rfl, ?_⟩) ?_ ?_
  rotate_left
  · intro w'
    go_simp
    with_reducible rfl
  rotate_left
  · simp only [Act.put, List.setIfInBounds_toArray, List.set_cons_zero, List.set_cons_succ, i64_w, i32_w]
    rfl
  refine pure_ (i := 8) (N := some 77) (v := ?_) (a' := ?_) #[true, true, true, true, false, true, false, true, true, false, false, false, false, false] rfl rfl (by kernel_rfl) (fun _ _ _ h => h) (Or.inl ⟨by rfl, ?_⟩) ?_ ?_
  rotate_left
  · intro w'
    go_simp
    with_reducible rfl
  rotate_left
  · simp only [Act.put, List.setIfInBounds_toArray, List.set_cons_zero, List.set_cons_succ, i64_w, i32_w]
    rfl
  refine pure_ (i := 9) (N := some 78) (v := ?_) (a' := ?_) #[true, true, true, true, false, true, false, true, true, true, false, false, false, false] rfl rfl (by kernel_rfl) (fun _ _ _ h => h) (Or.inl ⟨by rfl, ?_⟩) ?_ ?_
  rotate_left
  · intro w'
    go_simp
    with_reducible rfl
  rotate_left
  · simp only [Act.put, List.setIfInBounds_toArray, List.set_cons_zero, List.set_cons_succ, i64_w, i32_w]
    rfl
  refine take_ (i := 4) (N := some 73) (v := ?_) (a' := ?_) #[true, true, true, true, true, true, false, true, true, true, false, false, false, false] rfl rfl (by kernel_rfl) (fun _ _ _ h => h) (Or.inl ⟨by rfl, ?_⟩) hHeld ?_ ?_
  rotate_left
  · rintro w' ⟨s0, s1⟩
    go_simp
    with_reducible rfl
  rotate_left
  · simp only [Act.put, List.setIfInBounds_toArray, List.set_cons_zero, List.set_cons_succ, i64_w, i32_w]
    rfl
  refine pure_ (i := 6) (N := some 75) (v := ?_) (a' := ?_) #[true, true, true, true, true, true, true, true, true, true, false, false, false, false] rfl rfl (by kernel_rfl) (fun _ _ _ h => h) (Or.inl ⟨by rfl, ?_⟩) ?_ ?_
  rotate_left
  · intro w'
    go_simp
    with_reducible rfl
  rotate_left
  · simp only [Act.put, List.setIfInBounds_toArray, List.set_cons_zero, List.set_cons_succ, i64_w, i32_w]
    rfl
  refine take_ (i := 10) (N := some 79) (v := ?_) (a' := ?_) #[true, true, true, true, true, true, true, true, true, true, true, false, false, false] rfl rfl (by kernel_rfl) (fun _ _ _ h => h) (Or.inl ⟨by rfl, ?_⟩) hHeld ?_ ?_
  rotate_left
  · rintro w' ⟨s0, s1⟩
    go_simp
    with_reducible rfl
  rotate_left
  · simp only [Act.put, List.setIfInBounds_toArray, List.set_cons_zero, List.set_cons_succ, i64_w, i32_w]
    rfl
  refine pure_ (i := 11) (N := some 80) (v := ?_) (a' := ?_) #[true, true, true, true, true, true, true, true, true, true, true, true, false, false] rfl rfl (by kernel_rfl) (fun _ _ _ h => h) (Or.inl ⟨by rfl, ?_⟩) ?_ ?_
  rotate_left
  · intro w'
    go_simp
    with_reducible rfl
  rotate_left
  · simp only [Act.put, List.setIfInBounds_toArray, List.set_cons_zero, List.set_cons_succ, i64_w, i32_w]
    rfl
  refine one_ (i := 12) (N := some 81) #[true, true, true, true, true, true, true, true, true, true, true, true, true, false] rfl rfl (by kernel_rfl) (by decide) (fun K hK => ?_)
  refine box_step (by rfl) (N := 81) ?hd (cs := #[.string s, .int .i64 (now + later), .int .i64 (turns + 1), .int .i64 0]) (t := 63) ?hr ?_
  (case hd => rfl)
  (case hr => first | (go_simp; done) | (go_simp; rfl))
  intro b hgb w2 hbox hb
  have Q2 := Aside0.mk (Q1.out.drew.below hb); have M2 := Aside0.mk (M1.out.keep ((hb.block m (by exact M1.out.lt)).trans rfl)); have B2 := Aside0.mk (below_on (below_drew B1.out) (by exact Nat.le_trans H.out.isq.size (Nat.le_of_eq S1.out.symm)) hb); have K2 := Aside0.mk (K1.out.drew.below hb); have X2 := Aside0.mk hbox; have G2 := Aside0.mk (show b = w1.heap.size from hgb); have S2 := Aside0.mk (show w.heap.size ≤ w2.heap.size from Nat.le_trans (Nat.le_of_eq S1.out.symm) hb.size)
  clear hgb hbox hb
  refine hK.out _ _ ⟨(blk_cell Q2.out.hg 0).trans rfl, (blk_cell Q2.out.hg 1).trans rfl⟩ (fun hHeld => ?_)
  clear hK K
  refine norm_ (a' := ?_) ?_ ?_
  rotate_left
  · show Act.put _ (some 81) _ = _
    simp only [Act.put, List.setIfInBounds_toArray, List.set_cons_zero, List.set_cons_succ, i64_w, i32_w]
    rfl
  refine pure_ (i := 13) (N := some 9) (v := ?_) (a' := ?_) #[true, true, true, true, true, true, true, true, true, true, true, true, true, true] rfl rfl (by kernel_rfl) (fun _ _ _ h => h) (Or.inl ⟨by rfl, ?_⟩) ?_ ?_
  rotate_left
  · intro w'
    go_simp
    with_reducible rfl
  rotate_left
  · simp only [Act.put, List.setIfInBounds_toArray, List.set_cons_zero, List.set_cons_succ, i64_w, i32_w]
    rfl
  refine done_ (by kernel_rfl) ?_
  clear hHeld
  have HBQ := Aside0.mk (show (∀ i, i < q.length → (nth q i).bk ≠ b) ∧ b ≠ m ∧ w.heap.size ≤ b from ⟨fun i hi e => by have h1 := blk_lt (Q1.out.due i hi).1; have := G2.out; omega, fun e => by have h1 := M1.out.lt; have := G2.out; omega, by have := G2.out; have := S1.out; omega⟩)
  clear hlk zc0 zf0 zc1 zf1 zc2 zf2 zc3 zf3 Q1 M1 B1 K1
  have zc0 : w2.cell? ⟨g, 0, none⟩ = some (.int .i64 now) := (blk_cell Q2.out.hg 0).trans rfl; have zf0 := blk_frozen Q2.out.hg 0; have zc1 : w2.cell? ⟨g, 1, none⟩ = some (.int .i64 (turns + 1)) := (blk_cell Q2.out.hg 1).trans rfl; have zf1 := blk_frozen Q2.out.hg 1; have zc2 : w2.cell? ⟨g, 2, none⟩ = some (.slice A q.length c) := (blk_cell Q2.out.hg 2).trans rfl; have zf2 := blk_frozen Q2.out.hg 2; have zc3 : w2.cell? ⟨g, 3, none⟩ = some (.map (some m)) := (blk_cell Q2.out.hg 3).trans rfl; have zf3 := blk_frozen Q2.out.hg 3
  go_wp2_with (first | (at_mapUpdate; refine wpList_mapUpdate_in _ rfl _ _ _ 55 rfl 9 60 key9 Try.underlying55 RB m d.length D rfl M2.out.own (Nat.lt_of_lt_of_le HL.out (by decide)) _ _ (kl s) rfl rfl (keyOf9 HS.out) (.lit (.int .i64 (b : Int))) [] (RB_ptr b) ?_; intro w3 hown3 hturn3; have HO3 := Aside0.mk hown3; have GR3 := Aside0.mk hturn3.grown; clear hown3 hturn3))
  have Q3 := Aside0.mk ((Q2.out.keep (fun k hk hl => GR3.out.block k hl (fun e => hk.2 (Option.some.inj e)))).mono (P' := fun k => (P k ∨ w.heap.size ≤ k) ∧ k ≠ m) (fun k hk => ⟨.inl hk.1, hk.2⟩))
  have X3 := Aside0.mk ((GR3.out.block b (blk_lt X2.out) (fun e => HBQ.out.2.1 (Option.some.inj e))).trans X2.out)
  have B3 := Aside0.mk (below_grownN B2.out (Nat.le_trans H.out.isq.size S2.out) GR3.out (fun k e => by injection e with e; rw [← e]; exact H.out.nm))
  have K3 := Aside0.mk ((Kept.of_grown GR3.out (K2.out.mono (S' := P) (fun k hk => hk.1)) (fun k e => .inl (by injection e with e; rw [← e]; exact H.out.pm))))
  have S3 := Aside0.mk (Nat.le_trans S2.out GR3.out.size)
  have HTK := Aside0.mk (show TOk (q ++ [⟨s, now + later, turns + 1, b⟩]) from fun x hx => by
    rcases List.mem_append.1 hx with hx | hx
    · exact H.out.good.tok (by have := HTU.out; omega) H.out.perm x hx
    · rw [List.mem_singleton] at hx
      subst hx
      have h1 := HTU.out; have h2 := H.out.good.time.2.2
      show 0 ≤ turns + 1 ∧ turns + 1 < 9223372036854775807
      omega)
  have HQ4 := Aside0.mk (show q.length ≤ 4096 by rw [HQL.out]; exact Nat.le_of_lt HL.out)
  clear zc0 zf0 zc1 zf1 zc2 zf2 zc3 zf3 Q2 X2 B2 K2 M2 GR3
  refine (push_calls (x := ⟨s, now + later, turns + 1, b⟩) Q3.out X3.out (Nat.le_trans H.out.isq.size HBQ.out.2.2) ⟨.inr HBQ.out.2.2, HBQ.out.2.1⟩ HBQ.out.1 H.out.hp HTK.out HQ4.out).mono ?_
  rintro y w4 ⟨rfl, ⟨q4, A4, c4, hI, hp, hh⟩, hb, hk⟩
  have Q4 := Aside0.mk (hI.mono (P' := fun k => (P k ∨ w.heap.size ≤ k) ∧ k ≠ m) (fun k q => q.elim id (fun q => ⟨.inr (Nat.le_trans S3.out q), fun e => by have h1 := H.out.map.lt; have := S3.out; omega⟩)))
  have HP4 := Aside0.mk hp; have HH4 := Aside0.mk hh; have HM4 := Aside0.mk (hk.2 m (Nat.lt_of_lt_of_le H.out.map.lt S3.out) (fun q => q.2 rfl)); have B4 := Aside0.mk (B3.out.trans hb); have K4 := Aside0.mk (K3.out.then_ hk (fun k hk => hk.1))
  clear hI hp hh hb hk
  go_wp2_with fail
  go_ret
  refine ⟨rfl, ⟨b, m, q4, A4, c4, _, Q4.out, HP4.out.trans (H.out.perm.append_right _), HH4.out, ⟨?_, H.out.map.ok.put HN.out⟩, H.out.nm, .inl H.out.pm, ?_⟩, B4.out, K4.out⟩
  · rw [List.length_append, List.length_singleton]
    exact ownsMap_keep HO3.out HM4.out
  · have := H.out.good.put (s := s) (a := now + later) (b := b) (by have := HLT.out; have := H.out.good.time; omega) HS.out (by rw [but_self HN.out]; exact HL.out)
    rwa [but_self HN.out] at this
end Go.Proofs.Ytdodaepdghlolaa.Pure.Clk
