/-
  The net: slices.Delete, Take, Twice.
-/
import Derived.Test.YthgdojaildccaaaONet4
namespace Go.Proofs.Ythgdojaildccaaa.M
open Go.RowKit Go.Proofs.YthgdojaildccaaaW.PrintWords Go.Proofs.YthgdojaildccaaaW.PrintLast Go.Proofs.YthgdojaildccaaaW.PrintMore
set_option linter.unusedVariables false
set_option linter.unusedSimpArgs false
theorem bel_setRow {B g : Nat} {w0 w : World} (h : Below B w0 w) (hg : B ≤ g) (cs : Array Value) : Below B w0 (w.setRow g cs) :=
  ⟨h.os, h.tape, h.output, by rw [setRow_size]; exact h.size, fun k hk => (setRow_other w g k cs (by omega)).trans (h.block k hk)⟩
set_option maxHeartbeats 8000000 in
set_option maxRecDepth 100000 in
theorem slices_Delete {N : Nat} {ok : Nat → Prop} {w : World} {A : Option Addr} {c i j : Nat} {fl : List S37} (h : Kd.R k37 37 w N ok (.slice A fl.length c) fl) (hi : i < fl.length) (hj : j = i + 1) (h8 : fl.length ≤ 8192) :
    Calls Try.prog 26 #[.slice A fl.length c, .int .i64 (i : Int), .int .i64 (j : Int)] w fun x w' => x = .returned (.slice A (fl.length - 1) c) ∧ Kd.R k37 37 w' N ok (.slice A (fl.length - 1) c) (fl.eraseIdx i) ∧ Below N w w' ∧ Kept w w' ok := by
  have R0 := Aside0.mk h
  obtain ⟨gp, cap, e, hgN, hgl, -⟩ := Kd.R_form h (by omega)
  obtain ⟨rfl, -, rfl⟩ : A = some ⟨gp, 0, none⟩ ∧ fl.length = fl.length ∧ c = cap := by injection e with a b c; exact ⟨a, b, c⟩
  have hok : ok gp := h.1 gp rfl
  obtain ⟨h0, inner, ho', hr⟩ := h
  have e15 : k37.sz = 15 := rfl
  rw [e15] at ho' hr
  rcases ho'.2 with ⟨e, _⟩ | ⟨g, cap, cur, e, hb, hh, hnc, hcm, hcs, ht⟩
  · cases e
  injection e with e1 e2 e3
  injection e1 with e1
  injection e1 with e1 _
  subst e1 e3
  have hone : ∀ u ∈ inner, u.oneCell' = true := Kd.reps_one hr (by omega) (fun p cs hp => k37.K_one (k37.K_of_M hp))
  obtain ⟨n, hn⟩ : ∃ n, n = fl.length := ⟨_, rfl⟩
  rw [← hn] at hnc hi h8 ht ⊢
  obtain ⟨news, hnews⟩ : ∃ news, news = (cur.toList.drop ((i + 1) * 15)).take ((n - (i + 1)) * 15) := ⟨_, rfl⟩
  have h1 : ∀ u ∈ news, u.oneCell' = true := by
    intro u hu
    refine hone u ?_
    have e2 : news = inner.drop ((i + 1) * 15) := by
      rw [hnews, ← ht, List.drop_take]; congr 1; omega
    rw [e2] at hu
    exact List.mem_of_mem_drop hu
  obtain ⟨T, hT⟩ : ∃ T, T = cur.toList.take (i * 15) ++ news ++ cur.toList.drop (i * 15 + news.length) := ⟨_, rfl⟩
  obtain ⟨hd1, hd2, hd3, hd4⟩ := lists_del cur.toList z15 i n c hi hnc (by rw [Array.length_toList]; exact hcs) rfl news T hnews hT
  obtain ⟨B, hB1, hB2⟩ : ∃ B : Addr, (if c = i + 1 then (some ⟨gp, 0, none⟩ : Option Addr) else (some (⟨gp, 0, none⟩ : Addr)).map (·.add ((i + 1) * 15))) = some B ∧ (c ≠ i + 1 → B = ⟨gp, (i + 1) * 15, none⟩) := by
    by_cases hc : c = i + 1
    · rw [if_pos hc]; exact ⟨_, rfl, fun h => absurd hc h⟩
    · rw [if_neg hc]; exact ⟨_, rfl, fun _ => by simp [Addr.add]⟩
  obtain ⟨i0, hi0, hz0, hsz0, _⟩ := info_parts info37_
  have hc3 := fun W => cut3 (A := some ⟨gp, 0, none⟩) (n := n) (c := c) (lo := i) (hi := j) (mx := n) (by omega) (by omega) hnc W
  have hct := cut_to (P := Try.prog) 24 37 .i64 Try.underlying24 hi0 (some ⟨gp, 0, none⟩) n c (i : Int) (by omega) (by omega) hnc
  rw [Int.toNat_natCast] at hct
  have hcf := cut_from (P := Try.prog) 24 37 .i64 Try.underlying24 hi0 15 hsz0 (some ⟨gp, 0, none⟩) n c (j : Int) (by omega) (by omega)
  rw [Int.toNat_natCast, hj, hB1] at hcf
  have HAPP := Aside0.mk (show ∀ W : World, W.heap[gp]? = some (.cells cur 37 (0, 0)) → (Builtin.append_ #[24, 24] 24 #[.slice (some ⟨gp, 0, none⟩) i c, .slice (some B) (n - (i + 1)) (c - (i + 1))]).run Try.prog W = .ok (.slice (some ⟨gp, 0, none⟩) (n - 1) c) (W.setRow gp T.toArray) from fun W hW => by
    rw [hT, hnews]; exact app_run hW hcs hi hnc hB2 (by rw [← hnews]; exact h1))
  obtain ⟨m, hm⟩ : ∃ m, n = m + 1 := ⟨n - 1, by omega⟩
  have hn1 : n - 1 = m := by omega
  rw [hn1] at HAPP hd1 hd4 ⊢
  have hcl : ∀ W, (Instr.slice 24 (.slice (some ⟨gp, 0, none⟩) m c) (some (.int .i64 (m : Int))) (some (.int .i64 (n : Int))) none).run Try.prog W = .ok (.slice (some ⟨gp, m * 15, none⟩) 1 (c - m)) W := by
    intro W
    have := cut2 (A := some ⟨gp, 0, none⟩) (n := m) (c := c) (lo := m) (hi := n) (by omega) hnc W
    rw [if_neg (by omega), show n - m = 1 by omega] at this
    rw [this]
    congr 2
    simp [Addr.add]
    intro hz; omega
  obtain ⟨T2, hT2⟩ : ∃ T2, T2 = T.take (m * 15) ++ z15 ++ T.drop (m * 15 + z15.length) := ⟨_, rfl⟩
  rw [← hT2] at hd1 hd4
  have HD1 := Aside0.mk hd1; have HD4 := Aside0.mk hd4; have HD2 := Aside0.mk hd2; have HT2 := Aside0.mk hT2; have HN := Aside0.mk hn; have HM := Aside0.mk hm; have HNC := Aside0.mk hnc; have HOK := Aside0.mk hok; have HGN := Aside0.mk hgN; have HI := Aside0.mk hi; have HCS := Aside0.mk hcs; have X0 := Aside0.mk hh
  have b1 : ((i : Int) == (j : Int)) = false := beq_eq_false_iff_ne.mpr (by omega)
  have b3 : (i == j) = false := beq_eq_false_iff_ne.mpr (by omega)
  have b4 : (i = j) = False := eq_false (by omega)
  have b5 : ((i : Int) = (j : Int)) = False := eq_false (by omega)
  have b6 : (n = i) = False := eq_false (by omega)
  rw [← hj] at hcf HAPP
  have HJ := Aside0.mk hj
  clear hT2 hd1 hd2 hd3 hd4 hT hnews h1 hone hB1 hB2 hi0 hz0 hsz0 hm hn1 hok hgN hgl hi hj h8 h0 ho' hr hb hh hnc hcm hcs ht hn
  go_enter Try.func26, Try.ntmps26
  go_upto_region 5 with (first | ((with_reducible refine gate_dst (N := 13) rfl ?_); refine Kd.event_run (W := w) (w1 := w) ?hg ?hr ?_; (case hg => rfl); (case hr => first | (go_simp; done) | (go_simp; rfl))))
  refine start_ (n := 8) (S := fun w' => True) (ds := []) #[false, false, false, false, false, false, false, false] (by kernel_rfl) rfl rfl trivial (fun hHeld => ?_)
  refine pure_ (i := 0) (N := some 20) (v := ?_) (a' := ?_) #[true, false, false, false, false, false, false, false] rfl rfl (by kernel_rfl) (fun _ _ _ h => h) (Or.inl ⟨by rfl, ?_⟩) ?_ ?_
  rotate_left
  · intro w'
    go_simp
    with_reducible rfl
  rotate_left
  · simp only [Act.put, List.setIfInBounds_toArray, List.set_cons_zero, List.set_cons_succ, i64_w, i32_w]
    rfl
  refine pure_ (i := 1) (N := some 21) (v := ?_) (a' := ?_) #[true, true, false, false, false, false, false, false] rfl rfl (by kernel_rfl) (fun _ _ _ h => h) (Or.inl ⟨by rfl, ?_⟩) ?_ ?_
  rotate_left
  · intro w'
    go_simp
    with_reducible rfl
  rotate_left
  · simp only [Act.put, List.setIfInBounds_toArray, List.set_cons_zero, List.set_cons_succ, i64_w, i32_w]
    rfl
  refine pure_ (i := 2) (N := some 22) (v := ?_) (a' := ?_) #[true, true, true, false, false, false, false, false] rfl rfl (by kernel_rfl) (fun _ _ _ h => h) (Or.inl ⟨by rfl, ?_⟩) ?_ ?_
  rotate_left
  · intro w'
    go_simp
    with_reducible rfl
  rotate_left
  · simp only [Act.put, List.setIfInBounds_toArray, List.set_cons_zero, List.set_cons_succ, i64_w, i32_w]
    rfl
  refine pure_ (i := 3) (N := some 23) (v := ?_) (a' := ?_) #[true, true, true, true, false, false, false, false] rfl rfl (by kernel_rfl) (fun _ _ _ h => h) (Or.inl ⟨by rfl, ?_⟩) ?_ ?_
  rotate_left
  · intro w'
    go_simp
    with_reducible rfl
  rotate_left
  · simp only [Act.put, List.setIfInBounds_toArray, List.set_cons_zero, List.set_cons_succ, i64_w, i32_w]
    rfl
  refine pure_ (i := 4) (N := some 24) (v := ?_) (a' := ?_) #[true, true, true, true, true, false, false, false] rfl rfl (by kernel_rfl) (fun _ _ _ h => h) (Or.inl ⟨by rfl, ?_⟩) ?_ ?_
  rotate_left
  · intro w'
    go_simp
    with_reducible rfl
  rotate_left
  · simp only [Act.put, List.setIfInBounds_toArray, List.set_cons_zero, List.set_cons_succ, i64_w, i32_w]
    rfl
  refine pure_ (i := 5) (N := some 25) (v := ?_) (a' := ?_) #[true, true, true, true, true, true, false, false] rfl rfl (by kernel_rfl) (fun _ _ _ h => h) (Or.inl ⟨by rfl, ?_⟩) ?_ ?_
  rotate_left
  · intro w'
    go_simp
    with_reducible rfl
  rotate_left
  · simp only [Act.put, List.setIfInBounds_toArray, List.set_cons_zero, List.set_cons_succ, i64_w, i32_w]
    rfl
  refine one_ (i := 6) (N := some 26) #[true, true, true, true, true, true, true, false] rfl rfl (by kernel_rfl) (by decide) (fun K hK => ?_)
  have happ := HAPP.out w.drew (blk_drew X0.out)
  refine value_ (w1 := w.drew.setRow gp T.toArray) (v := .slice (some ⟨gp, 0, none⟩) m c) (by rfl) rfl ?_ ?_
  · simp [execOp, resolve, invoke, builtin, Act.eval, happ, Result.andThen]
  refine hK.out _ _ trivial (fun hHeld => ?_)
  clear hK K
  refine norm_ (a' := ?_) ?_ ?_
  rotate_left
  · show Act.put _ (some 26) _ = _
    simp only [Act.put, List.setIfInBounds_toArray, List.set_cons_zero, List.set_cons_succ, i64_w, i32_w]
    rfl
  refine pure_ (i := 7) (N := some 0) (v := ?_) (a' := ?_) #[true, true, true, true, true, true, true, true] rfl rfl (by kernel_rfl) (fun _ _ _ h => h) (Or.inl ⟨by rfl, ?_⟩) ?_ ?_
  rotate_left
  · intro w'
    go_simp
    with_reducible rfl
  rotate_left
  · simp only [Act.put, List.setIfInBounds_toArray, List.set_cons_zero, List.set_cons_succ, i64_w, i32_w]
    rfl
  refine done_ (by kernel_rfl) ?_
  have X2 := Aside0.mk (setRow_heap w.drew gp cur T.toArray 37 (0, 0) (blk_drew X0.out))
  have B2 := Aside0.mk (bel_setRow (below_drew (Below.refl N w)) HGN.out T.toArray)
  have O2 := Aside0.mk (show ∀ k, k ≠ gp → (w.drew.setRow gp T.toArray).heap[k]? = w.heap[k]? from fun k hk => setRow_other w.drew gp k T.toArray hk)
  have Z2 := Aside0.mk (show (w.drew.setRow gp T.toArray).heap.size = w.heap.size from setRow_size w.drew gp T.toArray)
  have X00 := X0
  clear happ X0
  generalize (w.drew.setRow gp T.toArray) = w2 at X2 B2 O2 Z2 ⊢
  have hclr := fun ty => clear_run (c := c - m) X2.out (m := m) (by have := HD2.out; have := HM.out; have := HNC.out; simp; omega) ty
  rw [show (T.toArray : Array Value).toList = T from rfl, ← HT2.out] at hclr
  go_wp2_with fail
  go_ret
  have h2 := setRow_heap w2 gp T.toArray T2.toArray 37 (0, 0) X2.out
  have hR := R0.out
  refine ⟨rfl, ?_, bel_setRow B2.out HGN.out T2.toArray, ⟨by rw [setRow_size, Z2.out]; exact Nat.le_refl _, fun k hk hno => ?_⟩⟩
  · have hnm : fl.length - 1 = m := by have h3 := HN.out; have h4 := HM.out; omega
    have hD := del_R (w' := w2.setRow gp T2.toArray) hR (by rw [← HN.out]; exact HI.out) X00.out h2 (by rw [HCS.out]; simpa using HD4.out) (by rw [hnm, ← HN.out]; exact HD1.out) (fun k hk => (setRow_other w2 gp k T2.toArray hk).trans (O2.out k hk))
    rw [hnm] at hD
    exact hD
  · have hne : k ≠ gp := fun e => hno (by rw [e]; exact HOK.out)
    rw [setRow_other w2 gp k T2.toArray hne]; exact O2.out k hne
end Go.Proofs.Ythgdojaildccaaa.M
