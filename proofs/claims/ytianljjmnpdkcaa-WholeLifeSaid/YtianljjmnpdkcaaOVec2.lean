/-
  Positions: slices.Clone, slices.Insert at the end, slices.Delete.
-/
import Derived.Test.YtianljjmnpdkcaaOVec1
import Derived.Laws.AppendOwn
import Derived.Laws.CopyRow
namespace Go.Proofs.Ytianljjmnpdkcaa.M
open Go.RowKit Go.Proofs.YtianljjmnpdkcaaW.PrintWords Go.Proofs.YtianljjmnpdkcaaW.PrintLast Go.Proofs.YtianljjmnpdkcaaW.PrintMore
set_option linter.unusedVariables false
set_option linter.unusedSimpArgs false
theorem info63_ : (Try.prog.info? 63).map (fun i => (i.zero, i.size, i.bytes)) = some (some (.agg #[.int .i64 0, .int .i64 0, .int .i64 0]), 3, 24) := by kernel_rfl
theorem nil46 (W : World) (A : Option Addr) (n c : Nat) : (binOp .eql 46 (.slice A n c) (.slice none 0 0)).run Try.prog W = .ok (.bool A.isNone) W := Go.Lib.run_eql_slice_nil W 46 63 A n c 0 0 Try.underlying46
attribute [local go_sem] nil46
theorem C_none {α : Type} {d : Kd α} {w : World} {l : List α} (h : Kd.C d w none l.length l) : l = [] := by
  obtain ⟨_, _, h3⟩ := h
  by_cases h0 : 0 < l.length
  · obtain ⟨a, e, _⟩ := h3 h0; cases e
  · exact List.eq_nil_of_length_eq_zero (by omega)
theorem below_setB {B : Nat} {w W : World} (h : Below B w W) {p : Addr} (hp : B ≤ p.block) (u : Value) : Below B w (W.setCell p u) :=
  ⟨h.os, h.tape, h.output, by simpa [World.setCell] using h.size, fun k hk => (Below.heap_setCell W p u k (by omega)).trans (h.block k hk)⟩
set_option maxHeartbeats 8000000 in
set_option maxRecDepth 100000 in
theorem clone_calls {A : Option Addr} {n c : Nat} {l : List S63} {w : World} (hn : n = l.length) (hC : Kd.C k63 w A l.length l) (hl : l.length ≤ 4096) :
    Calls Try.prog 31 #[.slice A n c] w fun x w' => ∃ v, x = .returned v ∧ Kd.R k63 63 w' w.heap.size (fun _ => True) v l ∧ Below w.heap.size w w' := by
  subst hn
  have B0 := Aside0.mk (Below.refl w.heap.size w)
  have HC := Aside0.mk hC; have HL := Aside0.mk hl
  rcases A with _ | A
  · obtain rfl := C_none hC
    clear hC hl
    go_enter Try.func31, Try.ntmps31
    go_wp2_with fail
    go_ret
    exact ⟨_, rfl, Kd.R_nil _ _ _ _ _, B0.out⟩
  clear hC hl
  go_enter Try.func31, Try.ntmps31
  go_wp2_with (first | ((with_reducible refine gate_dst (N := 5) rfl ?_); refine Kd.R_lit k63 _ 63 ?hg (N := 5) ?hd (xs := ([] : List S63)) (inner := []) (ok := fun _ => True) (okp := fun _ => True) ?hr ?hp (fun _ hk => hk) trivial (Below.refl _ _) (Nat.le_refl _) (by simp) ?_; (case hd => rfl); (case hg => rfl); (case hr => first | (go_simp; done) | (go_simp; rfl)); (case hp => exact (Reps.none _ _)); intro v5 w1 ho10 hb hg_ hnew_; have O1 := Aside0.mk ho10; have B1 := Aside0.mk hb; clear hb ho10 hg_ hnew_) | ((with_reducible refine gate_builtin (b := .append) (xs := #[.tmp 5, .tmp 6]) rfl ?_); at_builtin; refine Kd.R_append_rows k63 (Rr := k63.K w1) (w0 := w) w.heap.size rfl (.tmp 5) (.tmp 6) 46 63 (.agg #[.int .i64 0, .int .i64 0, .int .i64 0]) 24 rfl Try.underlying46 info63_ rfl (by decide) (by omega) v5 [] l _ _ _ (fun _ => True) (fun _ => False) rfl rfl ?aO ?aR (fun _ _ h => h) (fun _ h => h.elim) ?aF ?aB ?aS ?aL ?_; (case aR => exact Kd.C_below HC.out B1.out); (case aB => exact B1.out); (case aF => exact (fun _ _ => trivial)); (case aO => exact O1.out); (case aS => exact (B1.out).size); (case aL => have := HL.out; simp only [List.length_nil]; omega); intro v7 w2 ho hb hg hat; rw [List.nil_append] at ho; have O2 := Aside0.mk ho; have B2 := Aside0.mk hb; clear ho hb hg hat))
  go_ret
  exact ⟨_, rfl, O2.out, B2.out⟩
set_option maxHeartbeats 8000000 in
set_option maxRecDepth 100000 in
theorem insert_end {A B : Option Addr} {n c c2 N : Nat} {l : List S63} {q : S63} {w : World} (hn : n = l.length) (hO : Kd.R k63 63 w N (fun _ => True) (.slice A l.length c) l) (hS : Kd.C k63 w B [q].length [q]) (hl : l.length ≤ 4096) (hN : N ≤ w.heap.size) :
    Calls Try.prog 33 #[.slice A n c, .int .i64 (n : Int), .slice B 1 c2] w fun x w' => ∃ v, x = .returned v ∧ Kd.R k63 63 w' N (fun _ => True) v (l ++ [q]) ∧ Below N w w' := by
  subst hn
  obtain ⟨i0, hi0, hz0, hsz0, _⟩ := info_parts info63_
  have hcf := cut_from (P := Try.prog) 46 63 .i64 Try.underlying46 hi0 3 hsz0 A l.length c (l.length : Int) (by omega) (by omega)
  rw [Int.toNat_natCast, Nat.sub_self] at hcf
  obtain ⟨B9, hB9⟩ : ∃ B9, (if c = l.length then A else A.map (·.add (l.length * 3))) = B9 := ⟨_, rfl⟩
  rw [hB9] at hcf
  have O0 := Aside0.mk hO; have C0 := Aside0.mk hS; have HL := Aside0.mk hl; have HN := Aside0.mk hN
  obtain ⟨n, hn⟩ : ∃ n, l.length = n := ⟨_, rfl⟩
  rw [hn] at hcf ⊢
  have HNN := Aside0.mk hn
  have n1 : ((n : Int) == (n : Int)) = true := beq_self_eq_true _
  clear hn hO hS hl hN hi0 hz0 hsz0 hB9
  go_enter Try.func33, Try.ntmps33
  go_wp2_with (first | ((with_reducible refine gate_builtin (b := .append) (xs := #[.tmp 23, .tmp 24]) rfl ?_); at_builtin; refine Kd.R_append_rows k63 (Rr := k63.K w) (w0 := w) N rfl (.tmp 23) (.tmp 24) 46 63 (.agg #[.int .i64 0, .int .i64 0, .int .i64 0]) 24 rfl Try.underlying46 info63_ rfl (by decide) (by omega) (.slice A n c) l [q] _ _ _ (fun _ => True) (fun _ => False) rfl rfl ?aO ?aR (fun _ _ h => h) (fun _ h => h.elim) ?aF ?aB ?aS ?aL ?_; (case aR => exact C0.out); (case aB => exact Below.refl _ _); (case aF => exact (fun _ _ => trivial)); (case aO => exact HNN.out ▸ O0.out); (case aS => exact HN.out); (case aL => have := HL.out; omega); intro v25 w2 ho hb hg hat; have O2 := Aside0.mk ho; have B2 := Aside0.mk hb; clear ho hb hg hat))
  go_ret
  exact ⟨_, rfl, O2.out, B2.out⟩
theorem del_R {N : Nat} {ok : Nat → Prop} {w w' : World} {gp c i : Nat} {fl : List S63} {cur cur2 : Array Value} (h : Kd.R k63 63 w N ok (.slice (some ⟨gp, 0, none⟩) fl.length c) fl) (hi : i < fl.length)
    (hcur : w.heap[gp]? = some (.cells cur 63 (0, 0))) (hw' : w'.heap[gp]? = some (.cells cur2 63 (0, 0))) (hsz : cur2.size = cur.size)
    (htk : cur2.toList.take ((fl.length - 1) * 3) = cur.toList.take (i * 3) ++ (cur.toList.take (fl.length * 3)).drop ((i + 1) * 3)) (ho : ∀ k, k ≠ gp → w'.heap[k]? = w.heap[k]?) :
    Kd.R k63 63 w' N ok (.slice (some ⟨gp, 0, none⟩) (fl.length - 1) c) (fl.eraseIdx i) := by
  obtain ⟨h0, inner, ho', hr⟩ := h
  have e3 : k63.sz = 3 := rfl
  rw [e3] at ho' hr
  rcases ho'.2 with ⟨e, _⟩ | ⟨g, cap, cur0, e, hb, hh, hnc, hcm, hcs, ht⟩
  · cases e
  injection e with e1 e2 e3
  injection e1 with e1
  injection e1 with e1 _
  subst e1 e3
  rw [hcur] at hh
  injection hh with hh
  injection hh with hh _ _
  subst hh
  have hle : (fl.eraseIdx i).length = fl.length - 1 := List.length_eraseIdx_of_lt hi
  have hin : inner.length = fl.length * 3 := hr.1
  refine ⟨fun k hk => h0 k hk, cur2.toList.take ((fl.length - 1) * 3), ?_, ?_⟩
  · rw [hle, e3]
    refine ⟨?_, .inr ⟨gp, c, cur2, rfl, hb, hw', by omega, hcm, by rw [hsz, hcs], rfl⟩⟩
    have hl2 : cur2.toList.length = c * 3 := by simp [hsz, hcs, e3]
    rw [List.length_take, hl2]
    exact Nat.min_eq_left (Nat.mul_le_mul_right _ (by omega))
  · rw [htk, e3, List.eraseIdx_eq_take_drop_succ]
    have r1 := Kd.reps_take (m := i) hr (by omega)
    have r2 := Kd.reps_drop (m := i + 1) hr
    have r3 := Kd.reps_append r1 r2
    rw [← ht, List.take_take, Nat.min_eq_left (Nat.mul_le_mul_right _ (by omega))] at r3
    refine r3.imp_ (fun p cs hp => ?_)
    refine k63.M_move (fun k hk => ho k (fun e => ?_)) hp
    exact hk.2 (by rw [e]; rfl)
theorem lists_del {α : Type} (L ZZ : List α) (i n c : Nat) (hi : i < n) (hn : n ≤ c) (hL : L.length = c * 3) (hz : ZZ.length = 3) (news T : List α) (hnews : news = (L.drop ((i + 1) * 3)).take ((n - (i + 1)) * 3))
    (hT : T = L.take (i * 3) ++ news ++ L.drop (i * 3 + news.length)) :
    (T.take ((n - 1) * 3) ++ ZZ ++ T.drop ((n - 1) * 3 + ZZ.length)).take ((n - 1) * 3) = L.take (i * 3) ++ (L.take (n * 3)).drop ((i + 1) * 3) ∧ T.length = c * 3 ∧ news.length = (n - (i + 1)) * 3 ∧ (T.take ((n - 1) * 3) ++ ZZ ++ T.drop ((n - 1) * 3 + ZZ.length)).length = c * 3 := by
  have hnl : news.length = (n - (i + 1)) * 3 := by rw [hnews, List.length_take, List.length_drop, hL]; omega
  have hTl : T.length = c * 3 := by rw [hT, List.length_append, List.length_append, List.length_take, List.length_drop, hnl, hL]; omega
  refine ⟨?_, hTl, hnl, ?_⟩
  · have h1 : (T.take ((n - 1) * 3)).length = (n - 1) * 3 := by rw [List.length_take, hTl]; omega
    rw [List.append_assoc, List.take_append_of_le_length (by rw [h1]; exact Nat.le_refl _), List.take_take, Nat.min_self]
    have h2 : (L.take (i * 3) ++ news).length = (n - 1) * 3 := by rw [List.length_append, List.length_take, hnl, hL]; omega
    rw [hT, ← h2, List.take_left]
    congr 1
    rw [hnews, List.drop_take]
    congr 1
    omega
  · rw [List.length_append, List.length_append, List.length_take, List.length_drop, hTl, hz]; omega
theorem cut2 {A : Option Addr} {n c lo hi : Nat} (h1 : lo ≤ hi) (h2 : hi ≤ c) (W : World) : (Instr.slice 46 (.slice A n c) (some (.int .i64 (lo : Int))) (some (.int .i64 (hi : Int))) none).run Try.prog W = .ok (.slice (if c = lo then A else A.map (·.add (lo * 3))) (hi - lo) (c - lo)) W := by
  obtain ⟨i0, hi0, _, hsz0, _⟩ := info_parts info63_
  have hel : Try.prog.elem 46 = 63 := by simp [Program.elem, Try.underlying46]
  have hu : Try.prog.underlying 46 = some (.slice (Try.prog.elem 46)) := by rw [hel]; exact Try.underlying46
  rw [run_slice_lh W 46 A n c hu .i64 .i64 (lo : Int) (hi : Int) (by omega) (by omega) (by omega), hel]
  simp [sizeOf, typeInfo, hi0, hsz0, sliced, Result.andThen]
theorem cut3 {A : Option Addr} {n c lo hi mx : Nat} (h1 : lo ≤ hi) (h2 : hi ≤ mx) (h3 : mx ≤ c) (W : World) : (Instr.slice 46 (.slice A n c) (some (.int .i64 (lo : Int))) (some (.int .i64 (hi : Int))) (some (.int .i64 (mx : Int)))).run Try.prog W = .ok (.slice (if mx = lo then A else A.map (·.add (lo * 3))) (hi - lo) (mx - lo)) W := by
  obtain ⟨i0, hi0, _, hsz0, _⟩ := info_parts info63_
  have hel : Try.prog.elem 46 = 63 := by simp [Program.elem, Try.underlying46]
  have hu : Try.prog.underlying 46 = some (.slice (Try.prog.elem 46)) := by rw [hel]; exact Try.underlying46
  have e1 : (0 : Int) ≤ (lo : Int) := by omega
  have e2 : (lo : Int) ≤ (hi : Int) := by omega
  have e3 : (hi : Int) ≤ (mx : Int) := by omega
  have e4 : (mx : Int) ≤ (c : Int) := by omega
  have e5 : (0 : Int) ≤ (hi : Int) := by omega
  have e6 : (0 : Int) ≤ (mx : Int) := by omega
  rw [run_slice_any W 46 A n c hu, hel]
  simp [Instr.sliceBounds, run_sliceBound, sizeOf, typeInfo, hi0, hsz0, sliced, Result.andThen, h1, h2, h3]
def zz : List Value := [.int .i64 0, .int .i64 0, .int .i64 0]
theorem zeroP (W : World) : (zeroValue 63).run Try.prog W = .ok (.agg #[.int .i64 0, .int .i64 0, .int .i64 0]) W := by
  obtain ⟨i0, hi0, hz0, hsz0, _⟩ := info_parts info63_
  simp [zeroValue, typeInfo, hi0, hz0]
theorem zcP : (Builtin.zeroCells (Value.agg #[.int .i64 0, .int .i64 0, .int .i64 0]).cells 1).toList = zz := by kernel_rfl
theorem clear_run {W : World} {gp m c : Nat} {T : Array Value} (hT : W.heap[gp]? = some (.cells T 63 (0, 0))) (hm : m * 3 + 3 ≤ T.size) (ty : TypeId) :
    (Builtin.clear_ #[46] ty #[.slice (some ⟨gp, m * 3, none⟩) 1 c]).run Try.prog W = .ok (.tuple #[]) (W.setRow gp (T.toList.take (m * 3) ++ zz ++ T.toList.drop (m * 3 + zz.length)).toArray) := by
  have hst := run_storeCells_at (P := Try.prog) gp (m * 3) 63 zz 0 T W hT (by show m * 3 + 0 + 3 ≤ T.size; omega) (by intro v hv; simp [zz] at hv; rcases hv with rfl | rfl | rfl <;> rfl)
  simp only [Nat.add_zero] at hst
  simp [Builtin.clear_, run_underlying Try.underlying46, zeroP, zcP, hst]
theorem app_run {W : World} {gp i n c : Nat} {cur : Array Value} {B : Addr} (hW : W.heap[gp]? = some (.cells cur 63 (0, 0))) (hs : cur.size = c * 3) (hi : i < n) (hn : n ≤ c) (hB : c ≠ i + 1 → B = ⟨gp, (i + 1) * 3, none⟩)
    (h1 : ∀ u ∈ (cur.toList.drop ((i + 1) * 3)).take ((n - (i + 1)) * 3), u.oneCell' = true) :
    (Builtin.append_ #[46, 46] 46 #[.slice (some ⟨gp, 0, none⟩) i c, .slice (some B) (n - (i + 1)) (c - (i + 1))]).run Try.prog W =
      .ok (.slice (some ⟨gp, 0, none⟩) (n - 1) c) (W.setRow gp (cur.toList.take (i * 3) ++ (cur.toList.drop ((i + 1) * 3)).take ((n - (i + 1)) * 3) ++ cur.toList.drop (i * 3 + ((cur.toList.drop ((i + 1) * 3)).take ((n - (i + 1)) * 3)).length)).toArray) := by
  obtain ⟨i0, hi0, hz0, hsz0, _⟩ := info_parts info63_
  have hl : ((cur.toList.drop ((i + 1) * 3)).take ((n - (i + 1)) * 3)).length = (n - (i + 1)) * 3 := by
    rw [List.length_take, List.length_drop, Array.length_toList, hs]; omega
  have hr := run_append_room (P := Try.prog) (w := W) 46 46 63 i0 Try.underlying46 hi0 gp i c cur hW B (n - (i + 1)) (c - (i + 1)) ((cur.toList.drop ((i + 1) * 3)).take ((n - (i + 1)) * 3)) (by rw [hl, hsz0]) ?_ h1 (by omega) (by rw [hsz0, hl, hs]; omega)
  · rw [hsz0] at hr
    rw [hr, show i + (n - (i + 1)) = n - 1 by omega]
  · intro q u hu
    have hq : q < (n - (i + 1)) * 3 := by
      have := (List.getElem?_eq_some_iff.1 hu).1
      rw [hl] at this; exact this
    obtain rfl := hB (by omega)
    have e1 : (⟨gp, (i + 1) * 3, none⟩ : Addr).add q = ⟨gp, (i + 1) * 3 + q, none⟩ := by
      rcases Nat.eq_zero_or_pos q with rfl | hp
      · simp [Addr.add]
      · have hz : q ≠ 0 := by omega
        simp [Addr.add, hz]
    rw [e1, blk_cell hW, ← hu, List.getElem?_take_of_lt hq, List.getElem?_drop, Array.getElem?_toList]
theorem bel_setRow {B g : Nat} {w0 w : World} (h : Below B w0 w) (hg : B ≤ g) (cs : Array Value) : Below B w0 (w.setRow g cs) :=
  ⟨h.os, h.tape, h.output, by rw [setRow_size]; exact h.size, fun k hk => (setRow_other w g k cs (by omega)).trans (h.block k hk)⟩
set_option maxHeartbeats 8000000 in
set_option maxRecDepth 100000 in
theorem slices_Delete {N : Nat} {ok : Nat → Prop} {w : World} {A : Option Addr} {c i j : Nat} {fl : List S63} (h : Kd.R k63 63 w N ok (.slice A fl.length c) fl) (hi : i < fl.length) (hj : j = i + 1) (h8 : fl.length ≤ 8192) :
    Calls Try.prog 32 #[.slice A fl.length c, .int .i64 (i : Int), .int .i64 (j : Int)] w fun x w' => x = .returned (.slice A (fl.length - 1) c) ∧ Kd.R k63 63 w' N ok (.slice A (fl.length - 1) c) (fl.eraseIdx i) ∧ Below N w w' ∧ Kept w w' ok := by
  have R0 := Aside0.mk h
  obtain ⟨gp, cap, e, hgN, hgl, -⟩ := Kd.R_form h (by omega)
  obtain ⟨rfl, -, rfl⟩ : A = some ⟨gp, 0, none⟩ ∧ fl.length = fl.length ∧ c = cap := by injection e with a b c; exact ⟨a, b, c⟩
  have hok : ok gp := h.1 gp rfl
  obtain ⟨h0, inner, ho', hr⟩ := h
  have e3 : k63.sz = 3 := rfl
  rw [e3] at ho' hr
  rcases ho'.2 with ⟨e, _⟩ | ⟨g, cap, cur, e, hb, hh, hnc, hcm, hcs, ht⟩
  · cases e
  injection e with e1 e2 e3
  injection e1 with e1
  injection e1 with e1 _
  subst e1 e3
  have hone : ∀ u ∈ inner, u.oneCell' = true := Kd.reps_one hr (by omega) (fun p cs hp => k63.K_one (k63.K_of_M hp))
  obtain ⟨n, hn⟩ : ∃ n, n = fl.length := ⟨_, rfl⟩
  rw [← hn] at hnc hi h8 ht ⊢
  obtain ⟨news, hnews⟩ : ∃ news, news = (cur.toList.drop ((i + 1) * 3)).take ((n - (i + 1)) * 3) := ⟨_, rfl⟩
  have h1 : ∀ u ∈ news, u.oneCell' = true := by
    intro u hu
    refine hone u ?_
    have e2 : news = inner.drop ((i + 1) * 3) := by
      rw [hnews, ← ht, List.drop_take]; congr 1; omega
    rw [e2] at hu
    exact List.mem_of_mem_drop hu
  obtain ⟨T, hT⟩ : ∃ T, T = cur.toList.take (i * 3) ++ news ++ cur.toList.drop (i * 3 + news.length) := ⟨_, rfl⟩
  obtain ⟨hd1, hd2, hd3, hd4⟩ := lists_del cur.toList zz i n c hi hnc (by rw [Array.length_toList]; exact hcs) rfl news T hnews hT
  obtain ⟨B, hB1, hB2⟩ : ∃ B : Addr, (if c = i + 1 then (some ⟨gp, 0, none⟩ : Option Addr) else (some (⟨gp, 0, none⟩ : Addr)).map (·.add ((i + 1) * 3))) = some B ∧ (c ≠ i + 1 → B = ⟨gp, (i + 1) * 3, none⟩) := by
    by_cases hc : c = i + 1
    · rw [if_pos hc]; exact ⟨_, rfl, fun h => absurd hc h⟩
    · rw [if_neg hc]; exact ⟨_, rfl, fun _ => by simp [Addr.add]⟩
  obtain ⟨i0, hi0, hz0, hsz0, _⟩ := info_parts info63_
  have hc3 := fun W => cut3 (A := some ⟨gp, 0, none⟩) (n := n) (c := c) (lo := i) (hi := j) (mx := n) (by omega) (by omega) hnc W
  have hct := cut_to (P := Try.prog) 46 63 .i64 Try.underlying46 hi0 (some ⟨gp, 0, none⟩) n c (i : Int) (by omega) (by omega) hnc
  rw [Int.toNat_natCast] at hct
  have hcf := cut_from (P := Try.prog) 46 63 .i64 Try.underlying46 hi0 3 hsz0 (some ⟨gp, 0, none⟩) n c (j : Int) (by omega) (by omega)
  rw [Int.toNat_natCast, hj, hB1] at hcf
  have HAPP := Aside0.mk (show ∀ W : World, W.heap[gp]? = some (.cells cur 63 (0, 0)) → (Builtin.append_ #[46, 46] 46 #[.slice (some ⟨gp, 0, none⟩) i c, .slice (some B) (n - (i + 1)) (c - (i + 1))]).run Try.prog W = .ok (.slice (some ⟨gp, 0, none⟩) (n - 1) c) (W.setRow gp T.toArray) from fun W hW => by
    rw [hT, hnews]; exact app_run hW hcs hi hnc hB2 (by rw [← hnews]; exact h1))
  obtain ⟨m, hm⟩ : ∃ m, n = m + 1 := ⟨n - 1, by omega⟩
  have hn1 : n - 1 = m := by omega
  rw [hn1] at HAPP hd1 hd4 ⊢
  have hcl : ∀ W, (Instr.slice 46 (.slice (some ⟨gp, 0, none⟩) m c) (some (.int .i64 (m : Int))) (some (.int .i64 (n : Int))) none).run Try.prog W = .ok (.slice (some ⟨gp, m * 3, none⟩) 1 (c - m)) W := by
    intro W
    have := cut2 (A := some ⟨gp, 0, none⟩) (n := m) (c := c) (lo := m) (hi := n) (by omega) hnc W
    rw [if_neg (by omega), show n - m = 1 by omega] at this
    rw [this]
    congr 2
    simp [Addr.add]
    intro hz; omega
  obtain ⟨T2, hT2⟩ : ∃ T2, T2 = T.take (m * 3) ++ zz ++ T.drop (m * 3 + zz.length) := ⟨_, rfl⟩
  rw [← hT2] at hd1 hd4
  have HD1 := Aside0.mk hd1; have HD4 := Aside0.mk hd4; have HD2 := Aside0.mk hd2; have HT2 := Aside0.mk hT2; have HN := Aside0.mk hn; have HM := Aside0.mk hm; have HNC := Aside0.mk hnc; have HOK := Aside0.mk hok; have HGN := Aside0.mk hgN; have HI := Aside0.mk hi; have HCS := Aside0.mk hcs; have X0 := Aside0.mk hh
  have b1 : ((i : Int) == (j : Int)) = false := beq_eq_false_iff_ne.mpr (by omega)
  have b3 : (i == j) = false := beq_eq_false_iff_ne.mpr (by omega)
  have b4 : (i = j) = False := eq_false (by omega)
  have b5 : ((i : Int) = (j : Int)) = False := eq_false (by omega)
  have b6 : (n = i) = False := eq_false (by omega)
  rw [← hj] at hcf HAPP
  have HJ := Aside0.mk hj
  clear hT2 hd1 hd2 hd3 hd4 hT hnews h1 hone hB1 hB2 hi0 hz0 hsz0 hm hn1 hok hgN hgl hi hj h8 h0 ho' hr hb hh hnc hcm hcs ht hn
  go_enter Try.func32, Try.ntmps32
  go_upto_region 5 with (first | ((with_reducible refine gate_dst (N := 13) rfl ?_); refine Kd.event_run (W := w) (w1 := w) ?hg ?hr ?_; (case hg => rfl); (case hr => first | (go_simp; done) | (go_simp; rfl))))
  refine start_ (n := 8) (S := fun w' => True) (ds := []) #[false, false, false, false, false, false, false, false] (by kernel_rfl) rfl rfl trivial (fun hHeld => ?_)
  refine pure_ (i := 0) (N := some 20) (v := ?_) (a' := ?_) #[true, false, false, false, false, false, false, false] rfl rfl (by kernel_rfl) (fun _ _ _ h => h) (Or.inl ⟨by rfl, ?_⟩) ?_ ?_
  rotate_left
  · intro w'
    go_simp
    with_reducible rfl
  rotate_left
  · simp only [Act.put, List.setIfInBounds_toArray, List.set_cons_zero, List.set_cons_succ, i64_w, i32_w]
    rfl
  refine pure_ (i := 1) (N := some 21) (v := ?_) (a' := ?_) #[true, true, false, false, false, false, false, false] rfl rfl (by kernel_rfl) (fun _ _ _ h => h) (Or.inl ⟨by rfl, ?_⟩) ?_ ?_
  rotate_left
  · intro w'
    go_simp
    with_reducible rfl
  rotate_left
  · simp only [Act.put, List.setIfInBounds_toArray, List.set_cons_zero, List.set_cons_succ, i64_w, i32_w]
    rfl
  refine pure_ (i := 2) (N := some 22) (v := ?_) (a' := ?_) #[true, true, true, false, false, false, false, false] rfl rfl (by kernel_rfl) (fun _ _ _ h => h) (Or.inl ⟨by rfl, ?_⟩) ?_ ?_
  rotate_left
  · intro w'
    go_simp
    with_reducible rfl
  rotate_left
  · simp only [Act.put, List.setIfInBounds_toArray, List.set_cons_zero, List.set_cons_succ, i64_w, i32_w]
    rfl
  refine pure_ (i := 3) (N := some 23) (v := ?_) (a' := ?_) #[true, true, true, true, false, false, false, false] rfl rfl (by kernel_rfl) (fun _ _ _ h => h) (Or.inl ⟨by rfl, ?_⟩) ?_ ?_
  rotate_left
  · intro w'
    go_simp
    with_reducible rfl
  rotate_left
  · simp only [Act.put, List.setIfInBounds_toArray, List.set_cons_zero, List.set_cons_succ, i64_w, i32_w]
    rfl
  refine pure_ (i := 4) (N := some 24) (v := ?_) (a' := ?_) #[true, true, true, true, true, false, false, false] rfl rfl (by kernel_rfl) (fun _ _ _ h => h) (Or.inl ⟨by rfl, ?_⟩) ?_ ?_
  rotate_left
  · intro w'
    go_simp
    with_reducible rfl
  rotate_left
  · simp only [Act.put, List.setIfInBounds_toArray, List.set_cons_zero, List.set_cons_succ, i64_w, i32_w]
    rfl
  refine pure_ (i := 5) (N := some 25) (v := ?_) (a' := ?_) #[true, true, true, true, true, true, false, false] rfl rfl (by kernel_rfl) (fun _ _ _ h => h) (Or.inl ⟨by rfl, ?_⟩) ?_ ?_
  rotate_left
  · intro w'
    go_simp
    with_reducible rfl
  rotate_left
  · simp only [Act.put, List.setIfInBounds_toArray, List.set_cons_zero, List.set_cons_succ, i64_w, i32_w]
    rfl
  refine one_ (i := 6) (N := some 26) #[true, true, true, true, true, true, true, false] rfl rfl (by kernel_rfl) (by decide) (fun K hK => ?_)
  have happ := HAPP.out w.drew (blk_drew X0.out)
  refine value_ (w1 := w.drew.setRow gp T.toArray) (v := .slice (some ⟨gp, 0, none⟩) m c) (by rfl) rfl ?_ ?_
  · simp [execOp, resolve, invoke, builtin, Act.eval, happ, Result.andThen]
  refine hK.out _ _ trivial (fun hHeld => ?_)
  clear hK K
  refine norm_ (a' := ?_) ?_ ?_
  rotate_left
  · show Act.put _ (some 26) _ = _
    simp only [Act.put, List.setIfInBounds_toArray, List.set_cons_zero, List.set_cons_succ, i64_w, i32_w]
    rfl
  refine pure_ (i := 7) (N := some 0) (v := ?_) (a' := ?_) #[true, true, true, true, true, true, true, true] rfl rfl (by kernel_rfl) (fun _ _ _ h => h) (Or.inl ⟨by rfl, ?_⟩) ?_ ?_
  rotate_left
  · intro w'
    go_simp
    with_reducible rfl
  rotate_left
  · simp only [Act.put, List.setIfInBounds_toArray, List.set_cons_zero, List.set_cons_succ, i64_w, i32_w]
    rfl
  refine done_ (by kernel_rfl) ?_
  have X2 := Aside0.mk (setRow_heap w.drew gp cur T.toArray 63 (0, 0) (blk_drew X0.out))
  have B2 := Aside0.mk (bel_setRow (below_drew (Below.refl N w)) HGN.out T.toArray)
  have O2 := Aside0.mk (show ∀ k, k ≠ gp → (w.drew.setRow gp T.toArray).heap[k]? = w.heap[k]? from fun k hk => setRow_other w.drew gp k T.toArray hk)
  have Z2 := Aside0.mk (show (w.drew.setRow gp T.toArray).heap.size = w.heap.size from setRow_size w.drew gp T.toArray)
  have X00 := X0
  clear happ X0
  generalize (w.drew.setRow gp T.toArray) = w2 at X2 B2 O2 Z2 ⊢
  have hclr := fun ty => clear_run (c := c - m) X2.out (m := m) (by have := HD2.out; have := HM.out; have := HNC.out; simp; omega) ty
  rw [show (T.toArray : Array Value).toList = T from rfl, ← HT2.out] at hclr
  go_wp2_with fail
  go_ret
  have h2 := setRow_heap w2 gp T.toArray T2.toArray 63 (0, 0) X2.out
  have hR := R0.out
  refine ⟨rfl, ?_, bel_setRow B2.out HGN.out T2.toArray, ⟨by rw [setRow_size, Z2.out]; exact Nat.le_refl _, fun k hk hno => ?_⟩⟩
  · have hnm : fl.length - 1 = m := by have h3 := HN.out; have h4 := HM.out; omega
    have hD := del_R (w' := w2.setRow gp T2.toArray) hR (by rw [← HN.out]; exact HI.out) X00.out h2 (by rw [HCS.out]; simpa using HD4.out) (by rw [hnm, ← HN.out]; exact HD1.out) (fun k hk => (setRow_other w2 gp k T2.toArray hk).trans (O2.out k hk))
    rw [hnm] at hD
    exact hD
  · have hne : k ≠ gp := fun e => hno (by rw [e]; exact HOK.out)
    rw [setRow_other w2 gp k T2.toArray hne]; exact O2.out k hne
end Go.Proofs.Ytianljjmnpdkcaa.M
