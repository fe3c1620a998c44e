/-
  The clock in memory: Drop.
-/
import Derived.Test.YtdodaepdghlolaaOClk7
namespace Go.Proofs.Ytdodaepdghlolaa.Pure.Clk
open Go.RowKit Go.Proofs.Ytdodaepdghlolaa.M Go.Proofs.YtdodaepdghlolaaW.PrintWords Go.Proofs.YtdodaepdghlolaaW.PrintLast Go.Proofs.YtdodaepdghlolaaW.PrintMore Go.Proofs.Ytdodaepdghlolaa.Pure
set_option linter.unusedVariables false
set_option linter.unusedSimpArgs false
open Go.Maps (Keyed)
variable {N : Nat} {P P' : Nat → Prop} {w w' : World} {g : Nat} {now turns : Int} {m : Nat} {q d : List Du} {A : Option Addr} {c : Nat}
set_option maxHeartbeats 8000000 in
set_option maxRecDepth 100000 in
theorem drop_no (h : Ck N P w g now turns d) {s : ByteArray} (hs : s.size ≤ 9223372036854775807) (hn : ∀ x ∈ d, x.nm ≠ s) : Calls Try.prog 13 #[.pointer (some ⟨g, 0, none⟩), .string s] w fun e w' => e = .returned (.int .i64 4) ∧ Below w.heap.size w w' := by
  obtain ⟨m, q, A, c, D, h⟩ := h
  have H := Aside0.mk h
  have zc0 : w.cell? ⟨g, 0, none⟩ = some (.int .i64 now) := (blk_cell h.isq.hg 0).trans rfl; have zf0 := blk_frozen h.isq.hg 0; have zc1 : w.cell? ⟨g, 1, none⟩ = some (.int .i64 turns) := (blk_cell h.isq.hg 1).trans rfl; have zf1 := blk_frozen h.isq.hg 1; have zc2 : w.cell? ⟨g, 2, none⟩ = some (.slice A q.length c) := (blk_cell h.isq.hg 2).trans rfl; have zf2 := blk_frozen h.isq.hg 2; have zc3 : w.cell? ⟨g, 3, none⟩ = some (.map (some m)) := (blk_cell h.isq.hg 3).trans rfl; have zf3 := blk_frozen h.isq.hg 3
  have B0 := Aside0.mk (Below.refl w.heap.size w)
  have hlk := look_no h.map hn hs
  clear h hn hs
  go_enter Try.func13, Try.ntmps13
  go_wp2_with fail
  go_ret
  exact ⟨rfl, B0.out⟩
set_option maxHeartbeats 8000000 in
set_option maxRecDepth 100000 in
theorem drop_yes (h : Ck N P w g now turns d) {x : Du} (htu : turns < 4611686018427387903) (hx : x ∈ d) : Calls Try.prog 13 #[.pointer (some ⟨g, 0, none⟩), .string x.nm] w fun e w' => e = .returned (.int .i64 0) ∧ Ck N P w' g now turns (but d x.nm) ∧ Below N w w' ∧ Kept w w' P := by
  obtain ⟨m, q, A, c, D, h⟩ := h
  have H := Aside0.mk h
  have zc0 : w.cell? ⟨g, 0, none⟩ = some (.int .i64 now) := (blk_cell h.isq.hg 0).trans rfl; have zf0 := blk_frozen h.isq.hg 0; have zc1 : w.cell? ⟨g, 1, none⟩ = some (.int .i64 turns) := (blk_cell h.isq.hg 1).trans rfl; have zf1 := blk_frozen h.isq.hg 1; have zc2 : w.cell? ⟨g, 2, none⟩ = some (.slice A q.length c) := (blk_cell h.isq.hg 2).trans rfl; have zf2 := blk_frozen h.isq.hg 2; have zc3 : w.cell? ⟨g, 3, none⟩ = some (.map (some m)) := (blk_cell h.isq.hg 3).trans rfl; have zf3 := blk_frozen h.isq.hg 3
  have hlk := look_yes h.map hx (h.good.all x hx).2.2.2.2
  obtain ⟨i, hi, e⟩ := mem_at (h.perm.mem_iff.2 hx)
  have hd := (h.isq.due i hi).1
  rw [e] at hd
  obtain ⟨b, hb⟩ : ∃ b, b = x.bk := ⟨_, rfl⟩
  rw [← hb] at hlk hd
  have y3 : w.cell? ⟨b, 3, none⟩ = some (.int .i64 (i : Int)) := (blk_cell hd 3).trans rfl
  have HE := Aside0.mk e; have HI := Aside0.mk hi; have HX := Aside0.mk hx; have HB := Aside0.mk hb; have Y3 := Aside0.mk y3
  have HL4 := Aside0.mk (show q.length ≤ 4096 by rw [h.perm.length_eq]; exact h.good.len)
  have HTK := Aside0.mk (show TOk q from h.good.tok (by omega) h.perm)
  clear h hi e hx hd hb y3 htu
  go_enter Try.func13, Try.ntmps13
  go_wp2_with fail
  refine start_ (n := 9) (S := fun w' => w'.cell? ⟨b, 3, none⟩ = some (.int .i64 (i : Int))) (ds := [8]) #[false, false, false, false, false, false, false, false, false] (by kernel_rfl) rfl rfl (Y3.out) (fun hHeld => ?_)
  refine pure_ (i := 0) (N := some 18) (v := ?_) (a' := ?_) #[true, false, false, false, false, false, false, false, false] rfl rfl (by kernel_rfl) (fun _ _ _ h => h) (Or.inl ⟨by rfl, ?_⟩) ?_ ?_
  rotate_left
  · intro w'
    go_simp
    with_reducible rfl
  rotate_left
  · simp only [Act.put, List.setIfInBounds_toArray, List.set_cons_zero, List.set_cons_succ, i64_w, i32_w]
    rfl
  refine pure_ (i := 1) (N := some 19) (v := ?_) (a' := ?_) #[true, true, false, false, false, false, false, false, false] rfl rfl (by kernel_rfl) (fun _ _ _ h => h) (Or.inl ⟨by rfl, ?_⟩) ?_ ?_
  rotate_left
  · intro w'
    go_simp
    with_reducible rfl
  rotate_left
  · simp only [Act.put, List.setIfInBounds_toArray, List.set_cons_zero, List.set_cons_succ, i64_w, i32_w]
    rfl
  refine pure_ (i := 2) (N := some 20) (v := ?_) (a' := ?_) #[true, true, true, false, false, false, false, false, false] rfl rfl (by kernel_rfl) (fun _ _ _ h => h) (Or.inl ⟨by rfl, ?_⟩) ?_ ?_
  rotate_left
  · intro w'
    go_simp
    with_reducible rfl
  rotate_left
  · simp only [Act.put, List.setIfInBounds_toArray, List.set_cons_zero, List.set_cons_succ, i64_w, i32_w]
    rfl
  refine pure_ (i := 3) (N := some 21) (v := ?_) (a' := ?_) #[true, true, true, true, false, false, false, false, false] rfl rfl (by kernel_rfl) (fun _ _ _ h => h) (Or.inl ⟨by rfl, ?_⟩) ?_ ?_
  rotate_left
  · intro w'
    go_simp
    with_reducible rfl
  rotate_left
  · simp only [Act.put, List.setIfInBounds_toArray, List.set_cons_zero, List.set_cons_succ, i64_w, i32_w]
    rfl
  refine pure_ (i := 4) (N := some 22) (v := ?_) (a' := ?_) #[true, true, true, true, true, false, false, false, false] rfl rfl (by kernel_rfl) (fun _ _ _ h => h) (Or.inl ⟨by rfl, ?_⟩) ?_ ?_
  rotate_left
  · intro w'
    go_simp
    with_reducible rfl
  rotate_left
  · simp only [Act.put, List.setIfInBounds_toArray, List.set_cons_zero, List.set_cons_succ, i64_w, i32_w]
    rfl
  refine pure_ (i := 5) (N := some 23) (v := ?_) (a' := ?_) #[true, true, true, true, true, true, false, false, false] rfl rfl (by kernel_rfl) (fun _ _ _ h => h) (Or.inl ⟨by rfl, ?_⟩) ?_ ?_
  rotate_left
  · intro w'
    go_simp
    with_reducible rfl
  rotate_left
  · simp only [Act.put, List.setIfInBounds_toArray, List.set_cons_zero, List.set_cons_succ, i64_w, i32_w]
    rfl
  refine pure_ (i := 6) (N := some 24) (v := ?_) (a' := ?_) #[true, true, true, true, true, true, true, false, false] rfl rfl (by kernel_rfl) (fun _ _ _ h => h) (Or.inl ⟨by rfl, ?_⟩) ?_ ?_
  rotate_left
  · intro w'
    go_simp
    with_reducible rfl
  rotate_left
  · simp only [Act.put, List.setIfInBounds_toArray, List.set_cons_zero, List.set_cons_succ, i64_w, i32_w]
    rfl
  refine take_ (i := 7) (N := some 25) (v := ?_) (a' := ?_) #[true, true, true, true, true, true, true, true, false] rfl rfl (by kernel_rfl) (fun _ _ _ h => h) (Or.inl ⟨by rfl, ?_⟩) hHeld ?_ ?_
  rotate_left
  · intro w' s0
    go_simp
    with_reducible rfl
  rotate_left
  · simp only [Act.put, List.setIfInBounds_toArray, List.set_cons_zero, List.set_cons_succ, i64_w, i32_w]
    rfl
  refine last_ (i := 8) (N := some 26) #[true, true, true, true, true, true, true, true, true] rfl rfl (by kernel_rfl) (by decide) (fun K hK => ?_)
  refine goes_ Try.func23 (by kernel_rfl) rfl #[.iface 65 (.pointer (some ⟨g, 2, none⟩)), .int .i64 (i : Int)] (by rfl) rfl rfl (by simp only [List.map_toArray, List.map_cons, List.map_nil]; rfl) ?_
  with_reducible refine (remove_calls (w := w.drew) H.out.isq.drew HI.out H.out.hp HTK.out HL4.out).mono ?_
  rintro y w3 ⟨⟨rfl, q3, hI, hp, hh, hbk⟩, hb, hk⟩
  refine ⟨_, rfl, ?_⟩
  have Q3 := Aside0.mk hI; have B3 := Aside0.mk ((below_drew (Below.refl N w)).trans hb); have K3 := Aside0.mk (((Kept.refl w (fun k => P k ∧ k ≠ m)).drew).then_ hk (fun k hk => .inl hk)); have HP3 := Aside0.mk hp; have HH3 := Aside0.mk hh
  clear hI hp hh hb hk hbk
  refine hK.out _ _ ?_
  clear hK K
  refine norm_ (a' := ?_) ?_ ?_
  rotate_left
  · show Act.put _ (some 26) _ = _
    simp only [Act.put, List.setIfInBounds_toArray, List.set_cons_zero, List.set_cons_succ, i64_w, i32_w]
    rfl
  refine done_ (by kernel_rfl) ?_
  have M3 := Aside0.mk (H.out.map.keep (K3.out.2 m H.out.map.lt (fun q => q.2 rfl)))
  have HSX := Aside0.mk (H.out.good.all x HX.out).2.2.2.2
  clear hlk zc0 zf0 zc1 zf1 zc2 zf2 zc3 zf3
  have zc0 : w3.cell? ⟨g, 0, none⟩ = some (.int .i64 now) := (blk_cell Q3.out.hg 0).trans rfl; have zf0 := blk_frozen Q3.out.hg 0; have zc1 : w3.cell? ⟨g, 1, none⟩ = some (.int .i64 turns) := (blk_cell Q3.out.hg 1).trans rfl; have zf1 := blk_frozen Q3.out.hg 1; have zc2 : w3.cell? ⟨g, 2, none⟩ = some (.slice A q3.length c) := (blk_cell Q3.out.hg 2).trans rfl; have zf2 := blk_frozen Q3.out.hg 2; have zc3 : w3.cell? ⟨g, 3, none⟩ = some (.map (some m)) := (blk_cell Q3.out.hg 3).trans rfl; have zf3 := blk_frozen Q3.out.hg 3
  go_wp2_with (first | (at_delete; refine wpList_delete_own _ rfl _ _ 55 9 rfl 60 key9 Try.underlying55 RB m d.length D rfl M3.out.own _ (kl x.nm) rfl (keyOf9 HSX.out) ?_; intro w4 hown4 hturn4; have HO4 := Aside0.mk hown4; have GR4 := Aside0.mk hturn4.grown; clear hown4 hturn4))
  go_ret
  have MD := H.out.map.ok.del H.out.good.names HX.out
  refine ⟨rfl, ⟨m, q3, A, c, _, Q3.out.keep (fun k hk hl => GR4.out.block k hl (fun e => hk.2 (Option.some.inj e))), ?_, HH3.out, ⟨?_, MD⟩, H.out.nm, H.out.pm, H.out.good.but _⟩, below_grownN B3.out Q3.out.size GR4.out (fun k e => by injection e with e; rw [← e]; exact H.out.nm), Kept.of_grown GR4.out (K3.out.mono (S' := P) (fun k hk => hk.1)) (fun k e => .inl (by injection e with e; rw [← e]; exact H.out.pm))⟩
  · have := HP3.out
    rw [HE.out] at this
    exact but_perm this H.out.perm H.out.good.names
  · have := ownsMap_tight HO4.out
    rwa [MD.size] at this
end Go.Proofs.Ytdodaepdghlolaa.Pure.Clk
