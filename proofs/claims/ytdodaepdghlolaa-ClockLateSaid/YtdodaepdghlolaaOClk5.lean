/-
  container/heap over the clock's queue: Pop and Remove.
-/
import Derived.Test.YtdodaepdghlolaaOClk4
namespace Go.Proofs.Ytdodaepdghlolaa.Pure.Clk
open Go.RowKit Go.Proofs.Ytdodaepdghlolaa.M Go.Proofs.YtdodaepdghlolaaW.PrintWords Go.Proofs.YtdodaepdghlolaaW.PrintLast Go.Proofs.YtdodaepdghlolaaW.PrintMore Go.Proofs.Ytdodaepdghlolaa.Pure
set_option linter.unusedVariables false
set_option linter.unusedSimpArgs false
variable {N : Nat} {P P' : Nat → Prop} {w w' : World} {g : Nat} {now turns : Int} {m : Nat} {q : List Du} {A : Option Addr} {c : Nat}

theorem hp_swap {n i : Nat} (h : Hp q (n + 1)) (hn : q.length = n + 1) (hi : i ≤ n) : HBo (swap q i n) n i := by
  have il : i < q.length := by omega
  have nl : n < q.length := by omega
  refine ⟨fun c c0 cn ci cp => ?_, fun c c0 cn cp i0 => ?_⟩
  · rw [kq_swap il nl, kq_swap il nl, if_neg (by omega), if_neg cp, if_neg (by omega), if_neg ci]
    exact h c c0 (by omega)
  · rw [kq_swap il nl, kq_swap il nl, if_neg (by omega), if_neg (by omega), if_neg (by omega), if_neg (by omega)]
    have h1 := h c c0 (by omega)
    have h2 := h i i0 (by omega)
    rw [cp] at h1
    omega
theorem hp_less {n k : Nat} (h : Hp q n) (hk : k ≤ n) : Hp q k := fun c c0 cn => h c c0 (by omega)
theorem drop_last {n : Nat} (hn : q.length = n + 1) : q.drop n = [nth q n] := by
  rw [nth_eq (by omega), List.drop_eq_getElem_cons (by omega), List.drop_of_length_le (by omega)]
theorem popped_perm {q q2 : List Du} {n : Nat} (hn : q2.length = n + 1) (hp : q2.Perm q) : (q2.take n ++ [nth q2 n]).Perm q := by
  rw [← drop_last hn, List.take_append_drop]
  exact hp
theorem nth_last_swap {n i : Nat} (hn : q.length = n + 1) (hi : i ≤ n) : nth (swap q i n) n = nth q i := by
  rw [nth_swap (by omega) (by omega), if_pos rfl]
def PopR (N : Nat) (P : Nat → Prop) (g : Nat) (now turns : Int) (m : Nat) (q : List Du) (A : Option Addr) (c i : Nat) (e : Ending) (w' : World) : Prop :=
  e = .returned (.iface 60 (.pointer (some ⟨(nth q i).bk, 0, none⟩))) ∧ (∃ q', IsQ N P w' g now turns m q' A c ∧ (q' ++ [nth q i]).Perm q ∧ Hp q' q'.length ∧ w'.heap[(nth q i).bk]? = some (.cells (dcells (nth q i) q'.length) 63 (0, 0)))
theorem pop_done {q q2 : List Du} {n i : Nat} (hn : q2.length = n + 1) (hp : q2.Perm q) (hl : nth q2 n = nth q i) (hh : Hp q2 n) (hI : IsQ N P w' g now turns m (q2.take (q2.length - 1)) A c) (hb : w'.heap[(nth q2 (q2.length - 1)).bk]? = some (.cells (dcells (nth q2 (q2.length - 1)) (q2.length - 1)) 63 (0, 0))) :
    PopR N P g now turns m q A c i (.returned (.iface 60 (.pointer (some ⟨(nth q2 (q2.length - 1)).bk, 0, none⟩)))) w' := by
  have e : q2.length - 1 = n := by omega
  rw [e] at hI hb ⊢
  have L : (q2.take n).length = n := by rw [List.length_take]; omega
  refine ⟨by rw [hl], q2.take n, hI, by rw [← hl]; exact popped_perm hn hp, by rw [L]; exact hp_take hh (Nat.le_refl _), ?_⟩
  rw [L, ← hl]
  exact hb
set_option maxHeartbeats 8000000 in
set_option maxRecDepth 100000 in
theorem pop_calls (h : IsQ N P w g now turns m q A c) (hq : 0 < q.length) (hh : Hp q q.length) (ht : TOk q) (hl : q.length ≤ 4096) :
    Calls Try.prog 22 #[.iface 65 (.pointer (some ⟨g, 2, none⟩))] w fun e w' => PopR N P g now turns m q A c 0 e w' ∧ Below N w w' ∧ Kept w w' P := by
  have H := Aside0.mk h; have HQ := Aside0.mk hq; have HH := Aside0.mk hh; have HT := Aside0.mk ht; have HL := Aside0.mk hl
  have HL1 := Aside0.mk (show q.length - 1 + 1 = q.length by omega)
  obtain ⟨n, hn⟩ : ∃ n, n = q.length - 1 := ⟨_, rfl⟩
  rw [← hn] at HL1
  have b1 : wrap64 ((q.length : Int) - 1) = (n : Int) := by unfold wrap64; omega
  have HNL := Aside0.mk (show n < q.length by omega)
  have hmLen := meth_Len ((blk_cell h.hg 2).trans rfl : w.cell? ⟨g, 2, none⟩ = some (.slice A q.length c))
  clear h hq hh ht hl hn
  go_enter Try.func22, Try.ntmps22
  go_wp2_with fail
  refine len_calls.mono ?_
  rintro y w1 ⟨rfl, hb⟩
  have H1 := Aside0.mk (H.out.below hb); have B1 := Aside0.mk (below_on (Below.refl N w) H.out.size hb); have K1 := Aside0.mk ((Kept.refl w P).below hb)
  clear hb hmLen
  have hmSwap := meth_Swap ((blk_cell H1.out.hg 2).trans rfl : w1.cell? ⟨g, 2, none⟩ = some (.slice A q.length c))
  go_wp2_with fail
  refine (swap_calls (i := 0) H1.out HQ.out HNL.out).mono ?_
  rintro y w2 ⟨rfl, hI, hb, hk⟩
  have H2 := Aside0.mk hI; have B2 := Aside0.mk (B1.out.trans hb); have K2 := Aside0.mk (K1.out.then_ hk (fun k hk => .inl hk))
  have HBO := Aside0.mk (hp_swap (i := 0) (show Hp q (n + 1) by rw [HL1.out]; exact HH.out) HL1.out.symm (Nat.zero_le _))
  have HP1 := Aside0.mk (swap_perm (i := 0) HQ.out HNL.out); have HNT := Aside0.mk (nth_last_swap (i := 0) HL1.out.symm (Nat.zero_le _)); have HLS := Aside0.mk (swap_len q 0 n)
  have HT1 := Aside0.mk (HT.out.perm HP1.out)
  clear hI hb hk hmSwap
  generalize swap q 0 n = q1 at H2 HBO HP1 HNT HLS HT1
  go_wp2_with fail
  refine (down_calls (n := n) (i0 := 0) H2.out (by rw [HLS.out]; exact Nat.le_of_lt HNL.out) HBO.out (Nat.zero_le _) HT1.out (by rw [HLS.out]; have := HL.out; omega)).mono ?_
  rintro y w3 ⟨⟨b, q2, rfl, hI, hp, hd, hy, hx⟩, hb, hk⟩
  have H3 := Aside0.mk hI; have B3 := Aside0.mk (B2.out.trans hb); have K3 := Aside0.mk (K2.out.then_ hk (fun k hk => .inl hk))
  have HP2 := Aside0.mk (hp.trans HP1.out); have HN2 := Aside0.mk (show nth q2 n = nth q 0 from (nth_drop hd (Nat.le_refl _)).trans HNT.out)
  have HH2 := Aside0.mk (show Hp q2 n from by
    cases b
    · obtain ⟨rfl, hc⟩ := hx rfl
      by_cases n0 : n = 0
      · intro c c0 cn; omega
      · exact up_end (down_end (by omega) HBO.out hc) (Or.inl rfl)
    · exact hy rfl)
  have hmPop := meth_Pop (g := g) (w := w3)
  clear hI hp hd hy hx hb hk HBO HNT
  go_wp2_with fail
  refine (qpop_calls H3.out (by rw [HP2.out.length_eq]; exact HQ.out) (by rw [HP2.out.length_eq]; exact HL.out)).mono ?_
  rintro y w4 ⟨rfl, hI, hbk, hb, hk⟩
  have HD := Aside0.mk (pop_done (i := 0) (q := q) (n := n) (by rw [HP2.out.length_eq, HL1.out]) HP2.out HN2.out HH2.out hI hbk)
  have B4 := Aside0.mk (B3.out.trans hb); have K4 := Aside0.mk (K3.out.then_ hk (fun k hk => .inl hk))
  clear hI hbk hb hk hmPop
  go_wp2_with fail
  go_ret
  exact ⟨HD.out, B4.out, K4.out⟩
set_option maxHeartbeats 8000000 in
set_option maxRecDepth 100000 in
theorem remove_calls {i : Nat} (h : IsQ N P w g now turns m q A c) (hi : i < q.length) (hh : Hp q q.length) (ht : TOk q) (hl : q.length ≤ 4096) :
    Calls Try.prog 23 #[.iface 65 (.pointer (some ⟨g, 2, none⟩)), .int .i64 (i : Int)] w fun e w' => PopR N P g now turns m q A c i e w' ∧ Below N w w' ∧ Kept w w' P := by
  have hq : 0 < q.length := by omega
  have H := Aside0.mk h; have HI := Aside0.mk hi; have HQ := Aside0.mk hq; have HH := Aside0.mk hh; have HT := Aside0.mk ht; have HL := Aside0.mk hl
  have HL1 := Aside0.mk (show q.length - 1 + 1 = q.length by omega)
  obtain ⟨n, hn⟩ : ∃ n, n = q.length - 1 := ⟨_, rfl⟩
  rw [← hn] at HL1
  have b1 : wrap64 ((q.length : Int) - 1) = (n : Int) := by unfold wrap64; omega
  have HNL := Aside0.mk (show n < q.length by omega)
  have HIN := Aside0.mk (show i ≤ n by omega)
  have hmLen := meth_Len ((blk_cell h.hg 2).trans rfl : w.cell? ⟨g, 2, none⟩ = some (.slice A q.length c))
  clear h hq hh ht hl hn hi
  go_enter Try.func23, Try.ntmps23
  go_wp2_with fail
  refine len_calls.mono ?_
  rintro y w1 ⟨rfl, hb⟩
  have H1 := Aside0.mk (H.out.below hb); have B1 := Aside0.mk (below_on (Below.refl N w) H.out.size hb); have K1 := Aside0.mk ((Kept.refl w P).below hb)
  clear hb hmLen
  by_cases hni : n = i
  · subst hni
    have t1 : ((n : Int) != (n : Int)) = false := by simp
    have HP2 := Aside0.mk (List.Perm.refl q)
    have HH2 := Aside0.mk (show Hp q n from hp_less HH.out (Nat.le_of_lt HNL.out))
    have hmPop := meth_Pop (g := g) (w := w1)
    go_wp2_with fail
    refine (qpop_calls H1.out (by rw [HP2.out.length_eq]; exact HQ.out) (by rw [HP2.out.length_eq]; exact HL.out)).mono ?_
    rintro y w9 ⟨rfl, hI, hbk, hb, hk⟩
    have HD := Aside0.mk (pop_done (i := n) (q := q) (n := n) (by rw [HP2.out.length_eq, HL1.out]) HP2.out rfl HH2.out hI hbk)
    have B9 := Aside0.mk (B1.out.trans hb); have K9 := Aside0.mk (K1.out.then_ hk (fun k hk => .inl hk))
    clear hI hbk hb hk hmPop
    go_wp2_with fail
    go_ret
    exact ⟨HD.out, B9.out, K9.out⟩
  have t1 : ((n : Int) != (i : Int)) = true := bne_iff_ne.mpr (by omega)
  have t2 : ((n : Int) == (i : Int)) = false := beq_eq_false_iff_ne.mpr (by omega)
  have HNE := Aside0.mk (show i < n by have := HIN.out; omega)
  clear hni
  have hmSwap := meth_Swap ((blk_cell H1.out.hg 2).trans rfl : w1.cell? ⟨g, 2, none⟩ = some (.slice A q.length c))
  go_wp2_with fail
  refine (swap_calls H1.out HI.out HNL.out).mono ?_
  rintro y w2 ⟨rfl, hI, hb, hk⟩
  have H2 := Aside0.mk hI; have B2 := Aside0.mk (B1.out.trans hb); have K2 := Aside0.mk (K1.out.then_ hk (fun k hk => .inl hk))
  have HBO := Aside0.mk (hp_swap (i := i) (show Hp q (n + 1) by rw [HL1.out]; exact HH.out) HL1.out.symm HIN.out)
  have HP1 := Aside0.mk (swap_perm HI.out HNL.out); have HNT := Aside0.mk (nth_last_swap HL1.out.symm HIN.out); have HLS := Aside0.mk (swap_len q i n)
  have HT1 := Aside0.mk (HT.out.perm HP1.out)
  clear hI hb hk hmSwap
  generalize swap q i n = q1 at H2 HBO HP1 HNT HLS HT1
  go_wp2_with fail
  refine (down_calls (n := n) (i0 := i) H2.out (by rw [HLS.out]; exact Nat.le_of_lt HNL.out) HBO.out HIN.out HT1.out (by rw [HLS.out]; have := HL.out; omega)).mono ?_
  rintro y w3 ⟨⟨b, q2, rfl, hI, hp, hd, hy, hx⟩, hb, hk⟩
  have H3 := Aside0.mk hI; have B3 := Aside0.mk (B2.out.trans hb); have K3 := Aside0.mk (K2.out.then_ hk (fun k hk => .inl hk))
  have HN2 := Aside0.mk (show nth q2 n = nth q i from (nth_drop hd (Nat.le_refl _)).trans HNT.out)
  cases b
  · obtain ⟨e2, hc⟩ := hx rfl
    subst e2
    have HU := Aside0.mk (down_end HNE.out HBO.out hc)
    clear hI hp hd hy hx hb hk HBO HNT hc
    go_wp2_with fail
    refine (up_calls H3.out (by rw [HLS.out]; exact Nat.le_of_lt HNL.out) HU.out HT1.out (by rw [HLS.out]; have := HL.out; omega)).mono ?_
    rintro y w4 ⟨rfl, ⟨q3, hI, hp, hh, hd⟩, hb, hk⟩
    have H4 := Aside0.mk hI; have B4 := Aside0.mk (B3.out.trans hb); have K4 := Aside0.mk (K3.out.then_ hk (fun k hk => .inl hk))
    have HP2 := Aside0.mk (hp.trans HP1.out); have HH2 := Aside0.mk hh
    have HN3 := Aside0.mk (show nth q3 n = nth q i from (nth_drop hd (Nat.le_refl _)).trans HN2.out)
    clear HN2
    have HN2 := HN3
    clear hI hp hd hh hb hk HN3
    have hmPop := meth_Pop (g := g) (w := w4)
    go_wp2_with fail
    refine (qpop_calls H4.out (by rw [HP2.out.length_eq]; exact HQ.out) (by rw [HP2.out.length_eq]; exact HL.out)).mono ?_
    rintro y w9 ⟨rfl, hI, hbk, hb, hk⟩
    have HD := Aside0.mk (pop_done (i := i) (q := q) (n := n) (by rw [HP2.out.length_eq, HL1.out]) HP2.out HN2.out HH2.out hI hbk)
    have B9 := Aside0.mk (B4.out.trans hb); have K9 := Aside0.mk (K4.out.then_ hk (fun k hk => .inl hk))
    clear hI hbk hb hk hmPop
    go_wp2_with fail
    go_ret
    exact ⟨HD.out, B9.out, K9.out⟩
  · have HH2 := Aside0.mk (show Hp q2 n from hy rfl)
    have HP2 := Aside0.mk (hp.trans HP1.out)
    clear hI hp hd hy hx hb hk HBO HNT
    have hmPop := meth_Pop (g := g) (w := w3)
    go_wp2_with fail
    refine (qpop_calls H3.out (by rw [HP2.out.length_eq]; exact HQ.out) (by rw [HP2.out.length_eq]; exact HL.out)).mono ?_
    rintro y w9 ⟨rfl, hI, hbk, hb, hk⟩
    have HD := Aside0.mk (pop_done (i := i) (q := q) (n := n) (by rw [HP2.out.length_eq, HL1.out]) HP2.out HN2.out HH2.out hI hbk)
    have B9 := Aside0.mk (B3.out.trans hb); have K9 := Aside0.mk (K3.out.then_ hk (fun k hk => .inl hk))
    clear hI hbk hb hk hmPop
    go_wp2_with fail
    go_ret
    exact ⟨HD.out, B9.out, K9.out⟩
end Go.Proofs.Ytdodaepdghlolaa.Pure.Clk
