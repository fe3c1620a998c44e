/-
  Items: slices.Clone, slices.Insert anywhere.
-/
import Derived.Test.YtianljjmnpdkcaaOItm1
import Derived.Test.YtianljjmnpdkcaaPIns
namespace Go.Proofs.Ytianljjmnpdkcaa.M
open Go.RowKit Go.Proofs.YtianljjmnpdkcaaW.PrintWords Go.Proofs.YtianljjmnpdkcaaW.PrintLast Go.Proofs.YtianljjmnpdkcaaW.PrintMore
set_option linter.unusedVariables false
set_option linter.unusedSimpArgs false
theorem info33_ : (Try.prog.info? 33).map (fun i => (i.zero, i.size, i.bytes)) = some (some (.agg #[.int .i64 0, .int .i64 0, .int .i64 0, .int .i64 0, .int .i64 0, .int .i64 0, .int .i64 0, .int .i64 0]), 8, 64) := by kernel_rfl
theorem nil22 (W : World) (A : Option Addr) (n c : Nat) : (binOp .eql 22 (.slice A n c) (.slice none 0 0)).run Try.prog W = .ok (.bool A.isNone) W := Go.Lib.run_eql_slice_nil W 22 33 A n c 0 0 Try.underlying22
attribute [local go_sem] nil22
theorem flat33 : Flat k33 := fun h => by
  obtain rfl := k33_openM h
  exact k33_mkM _ _ _ _
theorem C_none {α : Type} {d : Kd α} {w : World} {l : List α} (h : Kd.C d w none l.length l) : l = [] := by
  obtain ⟨_, _, h3⟩ := h
  by_cases h0 : 0 < l.length
  · obtain ⟨a, e, _⟩ := h3 h0; cases e
  · exact List.eq_nil_of_length_eq_zero (by omega)
theorem below_setB {B : Nat} {w W : World} (h : Below B w W) {p : Addr} (hp : B ≤ p.block) (u : Value) : Below B w (W.setCell p u) :=
  ⟨h.os, h.tape, h.output, by simpa [World.setCell] using h.size, fun k hk => (Below.heap_setCell W p u k (by omega)).trans (h.block k hk)⟩
theorem bel_setRow {B g : Nat} {w0 w : World} (h : Below B w0 w) (hg : B ≤ g) (cs : Array Value) : Below B w0 (w.setRow g cs) :=
  ⟨h.os, h.tape, h.output, by rw [setRow_size]; exact h.size, fun k hk => (setRow_other w g k cs (by omega)).trans (h.block k hk)⟩
set_option maxHeartbeats 8000000 in
set_option maxRecDepth 100000 in
theorem cloneI_calls {A : Option Addr} {n c : Nat} {l : List S33} {w : World} (hn : n = l.length) (hC : Kd.C k33 w A l.length l) (hl : l.length ≤ 4096) :
    Calls Try.prog 22 #[.slice A n c] w fun x w' => ∃ v, x = .returned v ∧ Kd.R k33 33 w' w.heap.size (fun _ => True) v l ∧ Below w.heap.size w w' := by
  subst hn
  have B0 := Aside0.mk (Below.refl w.heap.size w)
  have HC := Aside0.mk hC; have HL := Aside0.mk hl
  rcases A with _ | A
  · obtain rfl := C_none hC
    clear hC hl
    go_enter Try.func22, Try.ntmps22
    go_wp2_with fail
    go_ret
    exact ⟨_, rfl, Kd.R_nil _ _ _ _ _, B0.out⟩
  clear hC hl
  go_enter Try.func22, Try.ntmps22
  go_wp2_with (first | ((with_reducible refine gate_dst (N := 5) rfl ?_); refine Kd.R_lit k33 _ 33 ?hg (N := 5) ?hd (xs := ([] : List S33)) (inner := []) (ok := fun _ => True) (okp := fun _ => True) ?hr ?hp (fun _ hk => hk) trivial (Below.refl _ _) (Nat.le_refl _) (by simp) ?_; (case hd => rfl); (case hg => rfl); (case hr => first | (go_simp; done) | (go_simp; rfl)); (case hp => exact (Reps.none _ _)); intro v5 w1 ho10 hb hg_ hnew_; have O1 := Aside0.mk ho10; have B1 := Aside0.mk hb; clear hb ho10 hg_ hnew_) | ((with_reducible refine gate_builtin (b := .append) (xs := #[.tmp 5, .tmp 6]) rfl ?_); at_builtin; refine Kd.R_append_rows k33 (Rr := k33.K w1) (w0 := w) w.heap.size rfl (.tmp 5) (.tmp 6) 22 33 (.agg #[.int .i64 0, .int .i64 0, .int .i64 0, .int .i64 0, .int .i64 0, .int .i64 0, .int .i64 0, .int .i64 0]) 64 rfl Try.underlying22 info33_ rfl (by decide) (by omega) v5 [] l _ _ _ (fun _ => True) (fun _ => False) rfl rfl ?aO ?aR (fun _ _ h => h) (fun _ h => h.elim) ?aF ?aB ?aS ?aL ?_; (case aR => exact Kd.C_below HC.out B1.out); (case aB => exact B1.out); (case aF => exact (fun _ _ => trivial)); (case aO => exact O1.out); (case aS => exact (B1.out).size); (case aL => have := HL.out; simp only [List.length_nil]; omega); intro v7 w2 ho hb hg hat; rw [List.nil_append] at ho; have O2 := Aside0.mk ho; have B2 := Aside0.mk hb; clear ho hb hg hat))
  go_ret
  exact ⟨_, rfl, O2.out, B2.out⟩
set_option maxHeartbeats 8000000 in
set_option maxRecDepth 100000 in
theorem insI_end {A B : Option Addr} {n c c2 N : Nat} {l : List S33} {q : S33} {w : World} (hn : n = l.length) (hO : Kd.R k33 33 w N (fun _ => True) (.slice A l.length c) l) (hS : Kd.C k33 w B [q].length [q]) (hl : l.length ≤ 4096) (hN : N ≤ w.heap.size) :
    Calls Try.prog 23 #[.slice A n c, .int .i64 (n : Int), .slice B 1 c2] w fun x w' => ∃ v, x = .returned v ∧ Kd.R k33 33 w' N (fun _ => True) v (l ++ [q]) ∧ Below N w w' := by
  subst hn
  obtain ⟨i0, hi0, hz0, hsz0, _⟩ := info_parts info33_
  have hcf := cut_from (P := Try.prog) 22 33 .i64 Try.underlying22 hi0 8 hsz0 A l.length c (l.length : Int) (by omega) (by omega)
  rw [Int.toNat_natCast, Nat.sub_self] at hcf
  obtain ⟨B9, hB9⟩ : ∃ B9, (if c = l.length then A else A.map (·.add (l.length * 8))) = B9 := ⟨_, rfl⟩
  rw [hB9] at hcf
  have O0 := Aside0.mk hO; have C0 := Aside0.mk hS; have HL := Aside0.mk hl; have HN := Aside0.mk hN
  obtain ⟨n, hn⟩ : ∃ n, l.length = n := ⟨_, rfl⟩
  rw [hn] at hcf ⊢
  have HNN := Aside0.mk hn
  have n1 : ((n : Int) == (n : Int)) = true := beq_self_eq_true _
  clear hn hO hS hl hN hi0 hz0 hsz0 hB9
  go_enter Try.func23, Try.ntmps23
  go_wp2_with (first | ((with_reducible refine gate_builtin (b := .append) (xs := #[.tmp 23, .tmp 24]) rfl ?_); at_builtin; refine Kd.R_append_rows k33 (Rr := k33.K w) (w0 := w) N rfl (.tmp 23) (.tmp 24) 22 33 (.agg #[.int .i64 0, .int .i64 0, .int .i64 0, .int .i64 0, .int .i64 0, .int .i64 0, .int .i64 0, .int .i64 0]) 64 rfl Try.underlying22 info33_ rfl (by decide) (by omega) (.slice A n c) l [q] _ _ _ (fun _ => True) (fun _ => False) rfl rfl ?aO ?aR (fun _ _ h => h) (fun _ h => h.elim) ?aF ?aB ?aS ?aL ?_; (case aR => exact C0.out); (case aB => exact Below.refl _ _); (case aF => exact (fun _ _ => trivial)); (case aO => exact HNN.out ▸ O0.out); (case aS => exact HN.out); (case aL => have := HL.out; omega); intro v25 w2 ho hb hg hat; have O2 := Aside0.mk ho; have B2 := Aside0.mk hb; clear ho hb hg hat))
  go_ret
  exact ⟨_, rfl, O2.out, B2.out⟩
theorem cutI {g n c lo : Nat} (h1 : lo ≤ n) (h2 : lo < c) (W : World) : (Instr.slice 22 (.slice (some ⟨g, 0, none⟩) n c) (some (.int .i64 (lo : Int))) none none).run Try.prog W = .ok (.slice (some ⟨g, lo * 8, none⟩) (n - lo) (c - lo)) W := by
  obtain ⟨i0, hi0, _, hsz0, _⟩ := info_parts info33_
  have h := cut_from (P := Try.prog) 22 33 .i64 Try.underlying22 hi0 8 hsz0 (some ⟨g, 0, none⟩) n c (lo : Int) (by omega) (by omega) W
  rw [Int.toNat_natCast, if_neg (by omega)] at h
  rw [h]
  simp only [Option.map_some, add_plain]
theorem cutI1 {g n c lo : Nat} (h1 : lo + 1 ≤ n) (h2 : lo + 1 < c) (W : World) : (Instr.slice 22 (.slice (some ⟨g, 0, none⟩) n c) (some (.int .i64 ((lo : Int) + 1))) none none).run Try.prog W = .ok (.slice (some ⟨g, (lo + 1) * 8, none⟩) (n - (lo + 1)) (c - (lo + 1))) W := by
  have := cutI (g := g) h1 h2 W
  rwa [show ((lo + 1 : Nat) : Int) = (lo : Int) + 1 by omega] at this
theorem cutH {A : Option Addr} {n c : Nat} (h1 : n + 1 ≤ c) (W : World) : (Instr.slice 22 (.slice A n c) none (some (.int .i64 ((n : Int) + 1))) none).run Try.prog W = .ok (.slice A (n + 1) c) W := by
  obtain ⟨i0, hi0, _, hsz0, _⟩ := info_parts info33_
  have hel : Try.prog.elem 22 = 33 := by simp [Program.elem, Try.underlying22]
  have hu : Try.prog.underlying 22 = some (.slice (Try.prog.elem 22)) := by rw [hel]; exact Try.underlying22
  have e2 : (0 : Int) ≤ (n : Int) + 1 := by omega
  have e4 : (n : Int) + 1 ≤ (c : Int) := by omega
  have e5 : ((n : Int) + 1).toNat = n + 1 := by omega
  rw [run_slice_any W 22 A n c hu, hel]
  simp [Instr.sliceBounds, run_sliceBound, sizeOf, typeInfo, hi0, hsz0, sliced, Result.andThen, e2, e4, e5, h1]
  intro _
  cases A <;> simp [Addr.add]
theorem cells_at {w : World} {g o : Nat} {cur : Array Value} {e' m : Nat} (hg : w.heap[g]? = some (.cells cur e' (0, 0))) : ∀ j v, ((cur.toList.drop o).take m)[j]? = some v → w.cell? ((⟨g, o, none⟩ : Addr).add j) = some v := by
  intro j v h
  have e1 : (⟨g, o, none⟩ : Addr).add j = ⟨g, o + j, none⟩ := by
    rcases Nat.eq_zero_or_pos j with rfl | hp
    · simp [Addr.add]
    · have hz : j ≠ 0 := by omega
      simp [Addr.add, hz]
  have hj : j < m := by
    have := (List.getElem?_eq_some_iff.1 h).1
    rw [List.length_take] at this; omega
  rw [e1, blk_cell hg, ← h, List.getElem?_take_of_lt hj, List.getElem?_drop, Array.getElem?_toList]
set_option maxHeartbeats 8000000 in
set_option maxRecDepth 100000 in
theorem insI_room {g gb n c c2 i N : Nat} {l : List S33} {q : S33} {w : World} {cur curb : Array Value} (hn : n = l.length) (hh : w.heap[g]? = some (.cells cur 33 (0, 0))) (hcs : cur.size = c * 8) (hcm : c ≤ maxLen) (hr : Reps (k33.M w N (fun _ => True)) 8 l (cur.toList.take (n * 8)))
    (hb : w.heap[gb]? = some (.cells curb 33 (0, 0))) (hs : curb.toList.take 8 = [.int .i64 q.f0.f0, .int .i64 q.f0.f1, .int .i64 q.f1, .int .i64 q.f2, .int .i64 q.f3, .int .i64 q.f4, .int .i64 q.f5, .int .i64 q.f6]) (hne : gb ≠ g) (hi : i < n) (hl : n ≤ 4095) (hg : N ≤ g) (hN : N ≤ w.heap.size) (hroom : n + 1 ≤ c) :
    Calls Try.prog 23 #[.slice (some ⟨g, 0, none⟩) n c, .int .i64 (i : Int), .slice (some ⟨gb, 0, none⟩) 1 c2] w fun x w' => ∃ A' c', x = .returned (.slice A' (n + 1) c') ∧ Kd.R k33 33 w' N (fun _ => True) (.slice A' (n + 1) c') (ins l i q) ∧ Below N w w' := by
  obtain ⟨i0, hi0, hz0, hsz0, hby0⟩ := info_parts info33_
  have hsz : (Try.prog.info? 33).map (·.size) = some 8 := by rw [hi0]; simp [hsz0]
  obtain ⟨seg, hseg⟩ : ∃ seg : List Value, seg = [.int .i64 q.f0.f0, .int .i64 q.f0.f1, .int .i64 q.f1, .int .i64 q.f2, .int .i64 q.f3, .int .i64 q.f4, .int .i64 q.f5, .int .i64 q.f6] := ⟨_, rfl⟩
  have hsl : seg.length = 8 := by rw [hseg]; rfl
  have hqM : k33.M w N (fun _ => True) q seg := by rw [hseg]; exact k33_mkM _ _ _ _
  rw [← hseg] at hs
  have h1s : ∀ v ∈ seg, v.oneCell' = true := fun v hv => k33.K_one (k33.K_of_M hqM) v hv
  have h1L : ∀ v ∈ cur.toList.take (n * 8), v.oneCell' = true := Kd.reps_one hr (by omega) (fun p cs hp => k33.K_one (k33.K_of_M hp))
  have hLl : cur.toList.length = c * 8 := by rw [Array.length_toList]; exact hcs
  have hnc : n ≤ c := by
    have := hr.1
    rw [List.length_take, hLl] at this
    omega
  obtain ⟨cs, hcse⟩ : ∃ cs, cs = (cur.toList.drop (i * 8)).take (n * 8 - i * 8) := ⟨_, rfl⟩
  have h1c : ∀ v ∈ cs, v.oneCell' = true := by
    intro v hv
    refine h1L v ?_
    rw [hcse, ← List.drop_take] at hv
    exact List.mem_of_mem_drop hv
  obtain ⟨T, hT⟩ : ∃ T, T = cur.toList.take (i * 8 + 8) ++ cs ++ cur.toList.drop (i * 8 + 8 + cs.length) := ⟨_, rfl⟩
  obtain ⟨r1, r2, r3, r4⟩ := lists_room cur.toList seg (i * 8) (n * 8) (c * 8) 8 (by omega) (by omega) hLl hsl cs T hcse hT
  obtain ⟨T2, hT2⟩ : ∃ T2, T2 = T.take (i * 8) ++ seg ++ T.drop (i * 8 + seg.length) := ⟨_, rfl⟩
  rw [← hT2] at r3 r4
  have CP1 := Aside0.mk (show ∀ (W : World) (ty : TypeId), W.heap[g]? = some (.cells cur 33 (0, 0)) → (Builtin.copy_ #[22, 22] ty #[.slice (some ⟨g, (i + 1) * 8, none⟩) (n - i) (c - (i + 1)), .slice (some ⟨g, i * 8, none⟩) (n + 1 - i) (c - i)]).run Try.prog W = .ok (goInt ((n - i : Nat) : Int)) (W.setRow g T.toArray) from fun W ty hW => by
    rw [hT, show i * 8 + 8 = (i + 1) * 8 by omega]
    exact copy_run Try.underlying22 hsz (by simp only [Nat.min_def]; split <;> omega) (by rw [r1]; omega) (by rw [hcse]; exact cells_at hW) hW (by rw [r1, hcs]; omega) h1c)
  have CP2 := Aside0.mk (show ∀ (W : World) (ty : TypeId), W.heap[g]? = some (.cells T.toArray 33 (0, 0)) → W.heap[gb]? = some (.cells curb 33 (0, 0)) → (Builtin.copy_ #[22, 22] ty #[.slice (some ⟨g, i * 8, none⟩) (n + 1 - i) (c - i), .slice (some ⟨gb, 0, none⟩) 1 c2]).run Try.prog W = .ok (goInt 1) (W.setRow g T2.toArray) from fun W ty hW hWb => by
    rw [hT2]
    exact copy_run Try.underlying22 hsz (by simp only [Nat.min_def]; split <;> omega) (by rw [hsl]) (by rw [← hs]; exact cells_at (o := 0) hWb) hW (by rw [hsl, List.size_toArray, r2]; omega) h1s)
  have hov : ∀ lb cb, (callFunc 35 #[.slice (some ⟨gb, 0, none⟩) 1 c2, .slice (some ⟨g, (i + 1) * 8, none⟩) lb cb]).run Try.prog w = .ok (.value (.bool false)) w := fun lb cb => by
    rw [run_callFunc_extern Try.func35 (by kernel_rfl) (by kernel_rfl) (by kernel_rfl) (e := Extern.SlicesOverlaps.overlaps #[22, 22] #[4]) (by kernel_rfl),
      Lib.run_overlaps_apart w 22 4 33 Try.underlying22 8 (fun W => by simp [sizeOf, typeInfo, hi0, hsz0]) ⟨gb, 0, none⟩ ⟨g, (i + 1) * 8, none⟩ 1 c2 lb cb hne 33 33 curb.size (c * 8) (by simp [World.shape?, hb]) (by simp [World.shape?, hh, hcs]) (by omega) (by simp [World.frozen?, hb]) (by simp [World.frozen?, hb])]
    rfl
  have s0 := fun W => cutI (g := g) (n := n) (c := c) (lo := i) (by omega) (by omega) W
  have s1 := fun W => cutH (A := some ⟨g, 0, none⟩) hroom W
  have s2 := fun W => cutI1 (g := g) (n := n + 1) (c := c) (lo := i) (by omega) (by omega) W
  have s3 := fun W => cutI (g := g) (n := n + 1) (c := c) (lo := i) (by omega) (by omega) W
  have X0 := Aside0.mk hh; have XB := Aside0.mk hb; have R3 := Aside0.mk r3; have R4 := Aside0.mk r4; have HRR := Aside0.mk hr; have HQ := Aside0.mk hqM; have HSL := Aside0.mk hsl; have HG := Aside0.mk hg; have HNE := Aside0.mk hne; have HCM := Aside0.mk hcm; have HNN := Aside0.mk hn; have HRO := Aside0.mk hroom
  have b1 : ((i : Int) == (n : Int)) = false := beq_eq_false_iff_ne.mpr (by omega)
  have b2 : (i == n) = false := beq_eq_false_iff_ne.mpr (by omega)
  have b3 : (i = n) = False := eq_false (by omega)
  have b4 : decide ((c : Int) < (n : Int) + 1) = false := decide_eq_false (by omega)
  have b5 : decide ((n : Int) + 1 > (c : Int)) = false := decide_eq_false (by omega)
  have b6 : ((c : Int) < (n : Int) + 1) = False := eq_false (by omega)
  have w1 : wrap64 ((i : Int) + 1) = (i : Int) + 1 := by unfold wrap64; omega
  have HI := Aside0.mk hi
  clear hn hh hcs hcm hr hb hs hne hg hN hroom hi0 hz0 hsz0 hby0 hsz hseg hsl hqM h1s h1L hLl hnc hcse h1c hT r1 r2 r3 r4 hT2
  go_enter Try.func23, Try.ntmps23
  go_wp2_with (simp only [hov])
  refine start_ (n := 9) (S := fun w' => True) (ds := []) #[false, false, false, false, false, false, false, false, false] (by kernel_rfl) rfl rfl trivial (fun hHeld => ?_)
  refine pure_ (i := 0) (N := some 69) (v := ?_) (a' := ?_) #[true, false, false, false, false, false, false, false, false] rfl rfl (by kernel_rfl) (fun _ _ _ h => h) (Or.inl ⟨by rfl, ?_⟩) ?_ ?_
  rotate_left
  · intro w'
    go_simp
    with_reducible rfl
  rotate_left
  · simp only [Act.put, List.setIfInBounds_toArray, List.set_cons_zero, List.set_cons_succ, i64_w, i32_w]
    rfl
  refine pure_ (i := 1) (N := some 70) (v := ?_) (a' := ?_) #[true, true, false, false, false, false, false, false, false] rfl rfl (by kernel_rfl) (fun _ _ _ h => h) (Or.inl ⟨by rfl, ?_⟩) ?_ ?_
  rotate_left
  · intro w'
    go_simp
    with_reducible rfl
  rotate_left
  · simp only [Act.put, List.setIfInBounds_toArray, List.set_cons_zero, List.set_cons_succ, i64_w, i32_w]
    rfl
  refine pure_ (i := 2) (N := some 71) (v := ?_) (a' := ?_) #[true, true, true, false, false, false, false, false, false] rfl rfl (by kernel_rfl) (fun _ _ _ h => h) (Or.inl ⟨by rfl, ?_⟩) ?_ ?_
  rotate_left
  · intro w'
    go_simp
    with_reducible rfl
  rotate_left
  · simp only [Act.put, List.setIfInBounds_toArray, List.set_cons_zero, List.set_cons_succ, i64_w, i32_w]
    rfl
  refine pure_ (i := 3) (N := some 72) (v := ?_) (a' := ?_) #[true, true, true, true, false, false, false, false, false] rfl rfl (by kernel_rfl) (fun _ _ _ h => h) (Or.inl ⟨by rfl, ?_⟩) ?_ ?_
  rotate_left
  · intro w'
    go_simp
    with_reducible rfl
  rotate_left
  · simp only [Act.put, List.setIfInBounds_toArray, List.set_cons_zero, List.set_cons_succ, i64_w, i32_w]
    rfl
  refine pure_ (i := 4) (N := some 73) (v := ?_) (a' := ?_) #[true, true, true, true, true, false, false, false, false] rfl rfl (by kernel_rfl) (fun _ _ _ h => h) (Or.inl ⟨by rfl, ?_⟩) ?_ ?_
  rotate_left
  · intro w'
    go_simp
    with_reducible rfl
  rotate_left
  · simp only [Act.put, List.setIfInBounds_toArray, List.set_cons_zero, List.set_cons_succ, i64_w, i32_w]
    rfl
  refine pure_ (i := 5) (N := some 74) (v := ?_) (a' := ?_) #[true, true, true, true, true, true, false, false, false] rfl rfl (by kernel_rfl) (fun _ _ _ h => h) (Or.inl ⟨by rfl, ?_⟩) ?_ ?_
  rotate_left
  · intro w'
    go_simp
    with_reducible rfl
  rotate_left
  · simp only [Act.put, List.setIfInBounds_toArray, List.set_cons_zero, List.set_cons_succ, i64_w, i32_w]
    rfl
  refine pure_ (i := 6) (N := some 75) (v := ?_) (a' := ?_) #[true, true, true, true, true, true, true, false, false] rfl rfl (by kernel_rfl) (fun _ _ _ h => h) (Or.inl ⟨by rfl, ?_⟩) ?_ ?_
  rotate_left
  · intro w'
    go_simp
    with_reducible rfl
  rotate_left
  · simp only [Act.put, List.setIfInBounds_toArray, List.set_cons_zero, List.set_cons_succ, i64_w, i32_w]
    rfl
  refine pure_ (i := 7) (N := some 76) (v := ?_) (a' := ?_) #[true, true, true, true, true, true, true, true, false] rfl rfl (by kernel_rfl) (fun _ _ _ h => h) (Or.inl ⟨by rfl, ?_⟩) ?_ ?_
  rotate_left
  · intro w'
    go_simp
    with_reducible rfl
  rotate_left
  · simp only [Act.put, List.setIfInBounds_toArray, List.set_cons_zero, List.set_cons_succ, i64_w, i32_w]
    rfl
  refine one_ (i := 8) (N := some 77) #[true, true, true, true, true, true, true, true, true] rfl rfl (by kernel_rfl) (by decide) (fun K hK => ?_)
  have happ := fun ty => CP1.out w.drew ty (blk_drew X0.out)
  refine value_ (w1 := w.drew.setRow g T.toArray) (v := goInt ((n - i : Nat) : Int)) (by rfl) rfl ?_ ?_
  · simp [execOp, resolve, invoke, builtin, Act.eval, happ, Result.andThen]
  refine hK.out _ _ trivial (fun hHeld => ?_)
  clear hK K
  refine norm_ (a' := ?_) ?_ ?_
  rotate_left
  · show Act.put _ (some 77) _ = _
    simp only [Act.put, List.setIfInBounds_toArray, List.set_cons_zero, List.set_cons_succ, i64_w, i32_w]
    rfl
  refine done_ (by kernel_rfl) ?_
  have X2 := Aside0.mk (setRow_heap w.drew g cur T.toArray 33 (0, 0) (blk_drew X0.out))
  have XB2 := Aside0.mk ((setRow_other w.drew g gb T.toArray HNE.out).trans XB.out)
  have B2 := Aside0.mk (bel_setRow (below_drew (Below.refl N w)) HG.out T.toArray)
  clear happ hov X0
  generalize (w.drew.setRow g T.toArray) = w2 at X2 XB2 B2 ⊢
  have hcp2 := fun ty => CP2.out w2 ty X2.out XB2.out
  go_wp2_with (at_builtin; refine wpList_copy_runI _ rfl _ _ 22 22 rfl _ _ rfl rfl (hcp2 _) ?_)
  go_ret
  have h2 := setRow_heap w2 g T.toArray T2.toArray 33 (0, 0) X2.out
  refine ⟨_, _, rfl, ?_, bel_setRow B2.out HG.out T2.toArray⟩
  rw [HNN.out]
  exact R_ins flat33 HRR.out HQ.out HSL.out (by have := HI.out; have := HNN.out; omega) HG.out trivial h2 (by have := HRO.out; have := HNN.out; omega) HCM.out (by rw [List.size_toArray]; exact R3.out) (by rw [← HNN.out]; show T2.take ((n + 1) * 8) = ((cur.toList.take (n * 8)).take (i * 8)) ++ seg ++ (cur.toList.take (n * 8)).drop (i * 8); rw [List.take_take, Nat.min_eq_left (by have := HI.out; omega), show (n + 1) * 8 = n * 8 + 8 by omega]; exact R4.out)
set_option maxHeartbeats 8000000 in
set_option maxRecDepth 100000 in
theorem insI_grow {g gb n c2 i N : Nat} {l : List S33} {q : S33} {w : World} {cur curb : Array Value} (hn : n = l.length) (hh : w.heap[g]? = some (.cells cur 33 (0, 0))) (hcs : cur.size = n * 8) (hr : Reps (k33.M w N (fun _ => True)) 8 l (cur.toList.take (n * 8)))
    (hb : w.heap[gb]? = some (.cells curb 33 (0, 0))) (hs : curb.toList.take 8 = [.int .i64 q.f0.f0, .int .i64 q.f0.f1, .int .i64 q.f1, .int .i64 q.f2, .int .i64 q.f3, .int .i64 q.f4, .int .i64 q.f5, .int .i64 q.f6]) (hne : gb ≠ g) (hi : i < n) (hl : n ≤ 4095) (hg : N ≤ g) (hN : N ≤ w.heap.size) :
    Calls Try.prog 23 #[.slice (some ⟨g, 0, none⟩) n n, .int .i64 (i : Int), .slice (some ⟨gb, 0, none⟩) 1 c2] w fun x w' => ∃ A' c', x = .returned (.slice A' (n + 1) c') ∧ Kd.R k33 33 w' N (fun _ => True) (.slice A' (n + 1) c') (ins l i q) ∧ Below N w w' := by
  obtain ⟨i0, hi0, hz0, hsz0, hby0⟩ := info_parts info33_
  have hsz : (Try.prog.info? 33).map (·.size) = some 8 := by rw [hi0]; simp [hsz0]
  obtain ⟨seg, hseg⟩ : ∃ seg : List Value, seg = [.int .i64 q.f0.f0, .int .i64 q.f0.f1, .int .i64 q.f1, .int .i64 q.f2, .int .i64 q.f3, .int .i64 q.f4, .int .i64 q.f5, .int .i64 q.f6] := ⟨_, rfl⟩
  have hsl : seg.length = 8 := by rw [hseg]; rfl
  have hqM : k33.M w N (fun _ => True) q seg := by rw [hseg]; exact k33_mkM _ _ _ _
  rw [← hseg] at hs
  have h1s : ∀ v ∈ seg, v.oneCell' = true := fun v hv => k33.K_one (k33.K_of_M hqM) v hv
  have h1L : ∀ v ∈ cur.toList.take (n * 8), v.oneCell' = true := Kd.reps_one hr (by omega) (fun p cs hp => k33.K_one (k33.K_of_M hp))
  have hLl : cur.toList.length = n * 8 := by rw [Array.length_toList]; exact hcs
  obtain ⟨cs, hcse⟩ : ∃ cs, cs = (cur.toList.drop (i * 8)).take (n * 8 - i * 8) := ⟨_, rfl⟩
  have h1c : ∀ v ∈ cs, v.oneCell' = true := by
    intro v hv
    refine h1L v ?_
    rw [hcse, ← List.drop_take] at hv
    exact List.mem_of_mem_drop hv
  have hgw : g < w.heap.size := blk_lt hh
  obtain ⟨olds, holds⟩ : ∃ olds, olds = cur.toList.take (i * 8) := ⟨_, rfl⟩
  have hol : olds.length = i * 8 := by rw [holds, List.length_take, hLl]; omega
  have hold : (Builtin.firstCells i0.size i (.slice (some ⟨g, 0, none⟩) i n)).run Try.prog w.drew = .ok olds.toArray w.drew := by
    rw [hsz0]
    exact run_firstCells_some w.drew 8 i ⟨g, 0, none⟩ i n olds hol (by rw [holds]; exact cells_at (o := 0) (blk_drew hh))
  have hrz := fun ty => Lib.run_append_grow_zeros (P := Try.prog) w 22 3 ty 33 i0 _ .i64 .i64 Try.underlying22 Try.underlying3 hi0 hz0 (some ⟨g, 0, none⟩) i n olds hold (n + 1 - i) (by omega) (by omega) (by omega) (by omega) (by rw [hby0]; omega) (by rw [hby0, show i + (n + 1 - i) = n + 1 by omega]; exact growslice_fits (by omega) (by omega))
  rw [show i + (n + 1 - i) = n + 1 by omega] at hrz
  obtain ⟨G, hG⟩ : ∃ G, G = grownCap w (n + 1) n 33 := ⟨_, rfl⟩
  have hGn : n + 1 ≤ G := by rw [hG]; exact grownCap_ge w _ _ _
  have hGm : G ≤ maxLen := by rw [hG]; exact grownCap_le_maxLen w (n + 1) n 33 (by unfold maxLen; omega)
  rw [← hG] at hrz
  obtain ⟨zz, hzz⟩ : ∃ zz : Array Value, zz = Value.cells (.agg #[.int .i64 0, .int .i64 0, .int .i64 0, .int .i64 0, .int .i64 0, .int .i64 0, .int .i64 0, .int .i64 0]) := ⟨_, rfl⟩
  have hzs : zz.size = 8 := by rw [hzz]; rfl
  rw [← hzz] at hrz
  obtain ⟨D0, hD0⟩ : ∃ D0, D0 = cur.toList.take (i * 8) ++ (Builtin.zeroCells zz (n + 1 - i)).toList ++ (Builtin.zeroCells zz (G - (n + 1))).toList := ⟨_, rfl⟩
  obtain ⟨D1, hD1⟩ : ∃ D1, D1 = D0.take (i * 8) ++ seg ++ D0.drop (i * 8 + seg.length) := ⟨_, rfl⟩
  obtain ⟨r1, r2, r3, r4, r5⟩ := lists_grow cur.toList seg (Builtin.zeroCells zz (n + 1 - i)).toList (Builtin.zeroCells zz (G - (n + 1))).toList (i * 8) (n * 8) (n * 8) 8 ((G - (n + 1)) * 8) (by omega) (by omega) hLl hsl (by rw [Array.length_toList, size_zeroCells, hzs]; omega) (by rw [Array.length_toList, size_zeroCells, hzs]) cs D0 D1 hcse hD0 hD1
  obtain ⟨D2, hD2⟩ : ∃ D2, D2 = D1.take (i * 8 + 8) ++ cs ++ D1.drop (i * 8 + 8 + cs.length) := ⟨_, rfl⟩
  rw [← hD2] at r4 r5
  have hrow : olds.toArray ++ Builtin.zeroCells zz (n + 1 - i) ++ Builtin.zeroCells zz (G - (n + 1)) = D0.toArray := by
    rw [hD0, holds]
    apply Array.ext'
    simp
  rw [hrow] at hrz
  obtain ⟨w1, hw1⟩ : ∃ w1, w1 = w.drew.alloc (.cells D0.toArray 33) := ⟨_, rfl⟩
  rw [← hw1] at hrz
  have e0 : (((n + 1 - i : Nat)) : Int) = (n : Int) + 1 - (i : Int) := by omega
  rw [e0] at hrz
  have K1 : w1.heap[w.heap.size]? = some (.cells D0.toArray 33 (0, 0)) := by rw [hw1]; exact blk_new w.drew _
  have O1 : ∀ k, k < w.heap.size → w1.heap[k]? = w.heap[k]? := fun k hk => by rw [hw1]; exact Below.heap_alloc w.drew _ k hk
  have B1 : Below N w w1 := by rw [hw1]; exact (below_drew (Below.refl N w)).alloc hN _
  have Z1 : w1.heap.size = w.heap.size + 1 := by rw [hw1]; simp [World.alloc]
  clear hw1
  obtain ⟨g2, hg2⟩ : ∃ g2, g2 = w.heap.size := ⟨_, rfl⟩
  rw [← hg2] at K1 hrz
  have hcp1 : ∀ ty, (Builtin.copy_ #[22, 22] ty #[.slice (some ⟨g2, i * 8, none⟩) (n + 1 - i) (G - i), .slice (some ⟨gb, 0, none⟩) 1 c2]).run Try.prog w1 = .ok (goInt ((1 : Nat) : Int)) (w1.setRow g2 D1.toArray) := fun ty => by
    rw [hD1]
    exact copy_run Try.underlying22 hsz (by simp only [Nat.min_def]; split <;> omega) (by rw [hsl]) (by rw [← hs]; exact cells_at (o := 0) ((O1 gb (blk_lt hb)).trans hb)) K1 (by rw [hsl, List.size_toArray, r1]; omega) h1s
  obtain ⟨w2, hw2⟩ : ∃ w2, w2 = w1.setRow g2 D1.toArray := ⟨_, rfl⟩
  rw [← hw2] at hcp1
  have K2 : w2.heap[g2]? = some (.cells D1.toArray 33 (0, 0)) := by rw [hw2]; exact setRow_heap w1 g2 D0.toArray D1.toArray 33 (0, 0) K1
  have O2 : ∀ k, k < w.heap.size → w2.heap[k]? = w.heap[k]? := fun k hk => by rw [hw2, setRow_other w1 g2 k D1.toArray (by omega)]; exact O1 k hk
  have B2 : Below N w w2 := by rw [hw2]; exact bel_setRow B1 (by omega) _
  clear hw2
  have hcp2 : ∀ ty, (Builtin.copy_ #[22, 22] ty #[.slice (some ⟨g2, (i + 1) * 8, none⟩) (n - i) (G - (i + 1)), .slice (some ⟨g, i * 8, none⟩) (n - i) (n - i)]).run Try.prog w2.drew = .ok (goInt ((n - i : Nat) : Int)) (w2.drew.setRow g2 D2.toArray) := fun ty => by
    rw [hD2, show i * 8 + 8 = (i + 1) * 8 by omega]
    exact copy_run Try.underlying22 hsz (by simp only [Nat.min_def]; split <;> omega) (by rw [r2]; omega) (by rw [hcse]; exact cells_at (blk_drew ((O2 g hgw).trans hh))) (blk_drew K2) (by rw [r2, List.size_toArray, r3]; omega) h1c
  have s0 := fun W => cutI (g := g) (n := n) (c := n) (lo := i) (by omega) (by omega) W
  have s1 := cut_to (P := Try.prog) 22 33 .i64 Try.underlying22 hi0 (some ⟨g, 0, none⟩) n n (i : Int) (by omega) (by omega) (by omega)
  rw [Int.toNat_natCast] at s1
  have s2 := fun W => cutI (g := g2) (n := n + 1) (c := G) (lo := i) (by omega) (by omega) W
  have s3 := fun W => cutI1 (g := g2) (n := n + 1) (c := G) (lo := i) (by omega) (by omega) W
  have X2 := Aside0.mk K2; have BB2 := Aside0.mk B2; have R4 := Aside0.mk r4; have R5 := Aside0.mk r5; have HRR := Aside0.mk hr; have HQ := Aside0.mk hqM; have HSL := Aside0.mk hsl; have HG := Aside0.mk (show N ≤ g2 by omega); have HGM := Aside0.mk hGm; have HGN := Aside0.mk hGn; have HNN := Aside0.mk hn; have CP2 := Aside0.mk hcp2
  have b1 : ((i : Int) == (n : Int)) = false := beq_eq_false_iff_ne.mpr (by omega)
  have b2 : (i == n) = false := beq_eq_false_iff_ne.mpr (by omega)
  have b3 : (i = n) = False := eq_false (by omega)
  have b4 : decide ((n : Int) < (n : Int) + 1) = true := decide_eq_true (by omega)
  have b5 : decide ((n : Int) + 1 > (n : Int)) = true := decide_eq_true (by omega)
  have b6 : ((n : Int) < (n : Int) + 1) = True := eq_true (by omega)
  have w1_ : wrap64 ((i : Int) + 1) = (i : Int) + 1 := by unfold wrap64; omega
  have HI := Aside0.mk hi
  clear hn hh hcs hr hb hs hne hg hN hi0 hz0 hsz0 hby0 hsz hseg hsl hqM h1s h1L hLl hcse h1c hgw holds hol hold hG hGn hGm hzz hzs hD0 hD1 hD2 r1 r2 r3 r4 r5 hrow e0 K1 O1 B1 Z1 hg2 K2 O2 B2 hcp2
  go_enter Try.func23, Try.ntmps23
  go_wp2_with (first
    | (at_builtin; refine Lib.wpList_append_run _ rfl _ _ _ _ rfl _ _ rfl rfl _ _ (hrz _) ?_)
    | (at_builtin; refine wpList_copy_runI _ rfl _ _ 22 22 rfl _ _ rfl rfl (hcp1 _) ?_))
  refine start_ (n := 9) (S := fun w' => True) (ds := []) #[false, false, false, false, false, false, false, false, false] (by kernel_rfl) rfl rfl trivial (fun hHeld => ?_)
  refine pure_ (i := 0) (N := some 46) (v := ?_) (a' := ?_) #[true, false, false, false, false, false, false, false, false] rfl rfl (by kernel_rfl) (fun _ _ _ h => h) (Or.inl ⟨by rfl, ?_⟩) ?_ ?_
  rotate_left
  · intro w'
    go_simp
    with_reducible rfl
  rotate_left
  · simp only [Act.put, List.setIfInBounds_toArray, List.set_cons_zero, List.set_cons_succ, i64_w, i32_w]
    rfl
  refine pure_ (i := 1) (N := some 47) (v := ?_) (a' := ?_) #[true, true, false, false, false, false, false, false, false] rfl rfl (by kernel_rfl) (fun _ _ _ h => h) (Or.inl ⟨by rfl, ?_⟩) ?_ ?_
  rotate_left
  · intro w'
    go_simp
    with_reducible rfl
  rotate_left
  · simp only [Act.put, List.setIfInBounds_toArray, List.set_cons_zero, List.set_cons_succ, i64_w, i32_w]
    rfl
  refine pure_ (i := 2) (N := some 48) (v := ?_) (a' := ?_) #[true, true, true, false, false, false, false, false, false] rfl rfl (by kernel_rfl) (fun _ _ _ h => h) (Or.inl ⟨by rfl, ?_⟩) ?_ ?_
  rotate_left
  · intro w'
    go_simp
    with_reducible rfl
  rotate_left
  · simp only [Act.put, List.setIfInBounds_toArray, List.set_cons_zero, List.set_cons_succ, i64_w, i32_w]
    rfl
  refine pure_ (i := 3) (N := some 49) (v := ?_) (a' := ?_) #[true, true, true, true, false, false, false, false, false] rfl rfl (by kernel_rfl) (fun _ _ _ h => h) (Or.inl ⟨by rfl, ?_⟩) ?_ ?_
  rotate_left
  · intro w'
    go_simp
    with_reducible rfl
  rotate_left
  · simp only [Act.put, List.setIfInBounds_toArray, List.set_cons_zero, List.set_cons_succ, i64_w, i32_w]
    rfl
  refine pure_ (i := 4) (N := some 50) (v := ?_) (a' := ?_) #[true, true, true, true, true, false, false, false, false] rfl rfl (by kernel_rfl) (fun _ _ _ h => h) (Or.inl ⟨by rfl, ?_⟩) ?_ ?_
  rotate_left
  · intro w'
    go_simp
    with_reducible rfl
  rotate_left
  · simp only [Act.put, List.setIfInBounds_toArray, List.set_cons_zero, List.set_cons_succ, i64_w, i32_w]
    rfl
  refine pure_ (i := 5) (N := some 51) (v := ?_) (a' := ?_) #[true, true, true, true, true, true, false, false, false] rfl rfl (by kernel_rfl) (fun _ _ _ h => h) (Or.inl ⟨by rfl, ?_⟩) ?_ ?_
  rotate_left
  · intro w'
    go_simp
    with_reducible rfl
  rotate_left
  · simp only [Act.put, List.setIfInBounds_toArray, List.set_cons_zero, List.set_cons_succ, i64_w, i32_w]
    rfl
  refine pure_ (i := 6) (N := some 52) (v := ?_) (a' := ?_) #[true, true, true, true, true, true, true, false, false] rfl rfl (by kernel_rfl) (fun _ _ _ h => h) (Or.inl ⟨by rfl, ?_⟩) ?_ ?_
  rotate_left
  · intro w'
    go_simp
    with_reducible rfl
  rotate_left
  · simp only [Act.put, List.setIfInBounds_toArray, List.set_cons_zero, List.set_cons_succ, i64_w, i32_w]
    rfl
  refine pure_ (i := 7) (N := some 53) (v := ?_) (a' := ?_) #[true, true, true, true, true, true, true, true, false] rfl rfl (by kernel_rfl) (fun _ _ _ h => h) (Or.inl ⟨by rfl, ?_⟩) ?_ ?_
  rotate_left
  · intro w'
    go_simp
    with_reducible rfl
  rotate_left
  · simp only [Act.put, List.setIfInBounds_toArray, List.set_cons_zero, List.set_cons_succ, i64_w, i32_w]
    rfl
  refine one_ (i := 8) (N := some 54) #[true, true, true, true, true, true, true, true, true] rfl rfl (by kernel_rfl) (by decide) (fun K hK => ?_)
  have happ := CP2.out
  refine value_ (w1 := w2.drew.setRow g2 D2.toArray) (v := goInt ((n - i : Nat) : Int)) (by rfl) rfl ?_ ?_
  · simp [execOp, resolve, invoke, builtin, Act.eval, happ, Result.andThen]
  refine hK.out _ _ trivial (fun hHeld => ?_)
  clear hK K
  refine norm_ (a' := ?_) ?_ ?_
  rotate_left
  · show Act.put _ (some 54) _ = _
    simp only [Act.put, List.setIfInBounds_toArray, List.set_cons_zero, List.set_cons_succ, i64_w, i32_w]
    rfl
  refine done_ (by kernel_rfl) ?_
  clear happ
  go_wp2_with fail
  go_ret
  have h2 := setRow_heap w2.drew g2 D1.toArray D2.toArray 33 (0, 0) (blk_drew X2.out)
  refine ⟨_, _, rfl, ?_, bel_setRow (below_drew BB2.out) HG.out D2.toArray⟩
  rw [HNN.out]
  exact R_ins flat33 HRR.out HQ.out HSL.out (by have := HI.out; have := HNN.out; omega) HG.out trivial h2 (by have := HGN.out; have := HNN.out; omega) HGM.out (by rw [List.size_toArray, R4.out]; have := HGN.out; show _ = G * 8; omega) (by rw [← HNN.out]; show D2.take ((n + 1) * 8) = ((cur.toList.take (n * 8)).take (i * 8)) ++ seg ++ (cur.toList.take (n * 8)).drop (i * 8); rw [List.take_take, Nat.min_eq_left (by have := HI.out; omega), show (n + 1) * 8 = n * 8 + 8 by omega]; exact R5.out)
theorem insI_calls {A B : Option Addr} {n c c2 i N M : Nat} {l : List S33} {q : S33} {w : World} (hn : n = l.length) (hO : Kd.R k33 33 w N (fun _ => True) (.slice A n c) l) (hS : Kd.R k33 33 w M (fun _ => True) (.slice B 1 c2) [q]) (hM : ∀ a, A = some a → a.block < M) (hi : i ≤ n) (hl : n ≤ 4095) (hN : N ≤ w.heap.size) :
    Calls Try.prog 23 #[.slice A n c, .int .i64 (i : Int), .slice B 1 c2] w fun x w' => ∃ A' c', x = .returned (.slice A' (n + 1) c') ∧ Kd.R k33 33 w' N (fun _ => True) (.slice A' (n + 1) c') (ins l i q) ∧ Below N w w' := by
  by_cases he : i = n
  · subst he
    have hO' := hO
    rw [hn] at hO'
    refine (insI_end (c := c) hn hO' (Kd.R_reads' hS).2.2 (by omega) hN).mono ?_
    rintro x w' ⟨v, rfl, hR, hb⟩
    obtain ⟨A', c', rfl⟩ := Kd.R_slice hR
    rw [List.length_append, List.length_singleton, ← hn] at hR ⊢
    exact ⟨A', c', rfl, by rw [hn, ins_end, ← hn]; exact hR, hb⟩
  · obtain ⟨g, cur, inner, rfl, -, hg, -, hh, hnc, hcm, hcs, ht, hr⟩ := R_block (by decide : 0 < k33.sz) hO (by omega)
    obtain ⟨gb, curb, innerb, rfl, -, hgb, -, hhb, -, -, -, htb, hrb⟩ := R_block (by decide : 0 < k33.sz) hS (Nat.le_refl 1)
    have hr' : Reps (k33.M w N (fun _ => True)) 8 l (cur.toList.take (n * 8)) := by
      rw [show cur.toList.take (n * 8) = inner from ht]
      exact Reps.imp_ hr (fun p cs hp => flat33 hp)
    have hs : curb.toList.take 8 = [.int .i64 q.f0.f0, .int .i64 q.f0.f1, .int .i64 q.f1, .int .i64 q.f2, .int .i64 q.f3, .int .i64 q.f4, .int .i64 q.f5, .int .i64 q.f6] := by
      have h1 : curb.toList.take 8 = innerb := by rw [← htb]; rfl
      rw [h1]
      have h2 := hrb.2 0 q rfl
      have h3 : innerb.length = 8 := by have h0 : innerb.length = [q].length * k33.sz := hrb.1; exact h0
      have h4 := k33_openM h2
      have h5 : (innerb.drop (0 * 8)).take 8 = innerb := by rw [Nat.zero_mul, List.drop_zero, List.take_of_length_le (by omega)]
      have h6 : (innerb.drop (0 * k33.sz)).take k33.sz = innerb := h5
      rw [← h6]
      exact h4
    have hne : gb ≠ g := by
      have h1 : g < M := hM ⟨g, 0, none⟩ rfl
      omega
    by_cases hroom : n + 1 ≤ c
    · exact insI_room hn hh hcs hcm hr' hhb hs hne (by omega) hl hg hN hroom
    · obtain rfl : c = n := by omega
      exact insI_grow hn hh hcs hr' hhb hs hne (by omega) hl hg hN
end Go.Proofs.Ytianljjmnpdkcaa.M
