/-
  A log's methods, for any set T of blocks that may change: other rows stay.
-/
import Derived.Test.YthpdmjpimeibnaaOOpen
namespace Go.Proofs.Ythpdmjpimeibnaa.M
open Go.RowKit Go.Proofs.YthpdmjpimeibnaaW.PrintWords Go.Proofs.YthpdmjpimeibnaaW.PrintLast Go.Proofs.YthpdmjpimeibnaaW.PrintMore
set_option linter.unusedVariables false
set_option linter.unusedSimpArgs false
def IsT (T : Nat → Prop) (w : World) (g gl : Nat) (d : DS) (n : Int) : Prop :=
  IsD (fun k => T k ∧ k ≠ gl) w g d ∧ w.heap[gl]? = some (.cells #[.pointer (some ⟨g, 0, none⟩), .int .i64 n] 81 (0, 0)) ∧ T gl
theorem IsT.of {N : Nat} {w : World} {g gl : Nat} {d : DS} {n : Int} (h : IsW N w g gl d n) : IsT (fun k => N ≤ k) w g gl d n := h
theorem IsT.below {T : Nat → Prop} {w w' : World} {g gl : Nat} {d : DS} {n : Int} (h : IsT T w g gl d n) (hb : Below w.heap.size w w') : IsT T w' g gl d n := ⟨h.1.below hb, blk_below h.2.1 hb, h.2.2⟩
theorem IsT.mono {T T' : Nat → Prop} {w : World} {g gl : Nat} {d : DS} {n : Int} (h : IsT T w g gl d n) (ht : ∀ k, T k → T' k) : IsT T' w g gl d n := ⟨h.1.mono (fun k hk => ⟨ht k hk.1, hk.2⟩), h.2.1, ht gl h.2.2⟩
theorem IsT.bound {T : Nat → Prop} {w : World} {g gl : Nat} {d : DS} {n : Int} (h : IsT T w g gl d n) : IsT (fun k => T k ∧ k < w.heap.size) w g gl d n := ⟨h.1.bound.mono (fun k hk => ⟨⟨hk.1.1, hk.2⟩, hk.1.2⟩), h.2.1, h.2.2, blk_lt h.2.1⟩
theorem IsT.kept {T S : Nat → Prop} {w w' : World} {g gl : Nat} {d : DS} {n : Int} (h : IsT T w g gl d n) (hk : Kept w w' S) (hs : ∀ k, T k → ¬ S k) : IsT T w' g gl d n := ⟨h.1.kept hk (fun k q => hs k q.1), (hk.2 gl (blk_lt h.2.1) (hs gl h.2.2)).trans h.2.1, h.2.2⟩
theorem IsT.step {w w' : World} {g gl : Nat} {d' : DS} {n : Int} {P T' : Nat → Prop} (h2 : w.heap[gl]? = some (.cells #[.pointer (some ⟨g, 0, none⟩), .int .i64 n] 81 (0, 0))) (h3 : T' gl) (hP : ∀ k, P k → T' k ∧ k ≠ gl) (hF : ∀ k, w.heap.size ≤ k → T' k)
    (hd : IsD (fun k => P k ∨ w.heap.size ≤ k) w' g d') (hk : Kept w w' P) : IsT T' w' g gl d' n :=
  ⟨hd.mono (fun k hk => hk.elim (hP k) (fun q => ⟨hF k q, fun e => by subst e; exact absurd (blk_lt h2) (Nat.not_lt.mpr q)⟩)), (hk.2 gl (blk_lt h2) (fun q => (hP gl q).2 rfl)).trans h2, h3⟩
set_option maxHeartbeats 4000000 in
set_option maxRecDepth 100000 in
theorem lt_Sync {T : Nat → Prop} {w : World} {g gl : Nat} {d : DS} {n : Int} (h : IsT T w g gl d n) (ho : d.Ok) :
    Calls Try.prog 31 #[.pointer (some ⟨gl, 0, none⟩)] w fun x w' => x = .returned (.int .i64 d.sync.2) ∧ IsT (fun k => T k ∨ w.heap.size ≤ k) w' g gl d.sync.1 n ∧ Kept w w' T ∧ Below 0 w w' := by
  have H := Aside0.mk h; have HO := Aside0.mk ho
  have hc0 : w.cell? ⟨gl, 0, none⟩ = some (.pointer (some ⟨g, 0, none⟩)) := (blk_cell h.2.1 0).trans rfl
  clear h ho
  go_enter Try.func31, Try.ntmps31
  go_wp2_with fail
  refine (d_SyncK H.out.1 HO.out).mono ?_; rintro x w1 ⟨rfl, hD, hK, hB⟩; have W1 := Aside0.mk (IsT.step (T' := fun k => T k ∨ w.heap.size ≤ k) H.out.2.1 (.inl H.out.2.2) (fun k hk => ⟨.inl hk.1, hk.2⟩) (fun k hk => .inr hk) hD hK); have K1 := Aside0.mk (hK.mono (S' := T) (fun k hk => hk.1)); have B1 := Aside0.mk hB; clear hD hK hB
  go_wp2_with fail
  go_ret
  exact ⟨rfl, W1.out, K1.out, B1.out⟩
set_option maxHeartbeats 4000000 in
set_option maxRecDepth 100000 in
theorem lt_Put {T : Nat → Prop} {w : World} {g gl : Nat} {d : DS} {n : Int} {A : Option Addr} {c : Nat} {x : List Int} (h : IsT T w g gl d n) (ho : d.Ok) (hx : Kd.C (Kd.int .u8) w A x.length x) (hc : x.length ≤ c) (hxb : Pure.Frame.Bytes x) (hn : 0 ≤ n ∧ n < 1000000) :
    Calls Try.prog 30 #[.pointer (some ⟨gl, 0, none⟩), .slice A x.length c] w fun y w' => y = .returned (.int .i64 (d.put x n).2.1) ∧ IsT (fun k => T k ∨ w.heap.size ≤ k) w' g gl (d.put x n).1 (d.put x n).2.2 ∧ Kept w w' T ∧ Below 0 w w' := by
  have H := Aside0.mk h; have HO := Aside0.mk ho; have HX := Aside0.mk hx; have HC := Aside0.mk hc
  have hw : wrap64 (n + 1) = n + 1 := by unfold wrap64; omega
  unfold DS.put
  by_cases hl : 16384 < x.length
  · obtain ⟨k, hk⟩ := (Pure.Frame.append_long [] x hl).rounds
    have HK := Aside0.mk hk
    rw [if_pos hl]
    clear h ho hx hc hxb hn hl hk
    go_enter Try.func30, Try.ntmps30
    go_wp2_with fail
    refine (frame_Append.calls k none 0 [] A c x _ _ w (Kd.C_nil _ _) (Nat.le_refl _) HX.out HC.out HK.out).mono ?_; rintro e w1 ⟨v1, rfl, hO, hB⟩; have W1 := Aside0.mk (H.out.below hB); have B1 := Aside0.mk hB; clear hO hB
    go_wp2_with fail
    go_ret
    exact ⟨rfl, W1.out.mono (fun k hk => .inl hk), Kept.of_below B1.out T, below0 B1.out⟩
  · obtain ⟨k, hk⟩ := (Pure.Frame.append_ev [] x hxb (by omega) (by simp)).rounds
    rw [List.nil_append] at hk
    have HK := Aside0.mk hk
    have hbl : (Pure.Frame.rec_ x).length < 4194304 := by rw [Pure.Frame.rec_length]; omega
    have HBL := Aside0.mk hbl
    rw [if_neg hl]
    obtain ⟨b, hb⟩ : ∃ b, b = Pure.Frame.rec_ x := ⟨_, rfl⟩
    rw [← hb] at HK HBL ⊢
    obtain ⟨r, er, hr⟩ : ∃ r er, d.write b = (r, er) := ⟨_, _, rfl⟩
    rw [hr]
    dsimp only
    have HR := Aside0.mk hr
    clear h ho hx hc hxb hn hl hk hbl hb hr
    by_cases he : er = 0
    · subst he
      rw [if_pos rfl]
      go_enter Try.func30, Try.ntmps30
      go_wp2_with fail
      refine (frame_Append.calls k none 0 [] A c x _ _ w (Kd.C_nil _ _) (Nat.le_refl _) HX.out HC.out HK.out).mono ?_; rintro e w1 ⟨v1, rfl, hO, hB⟩
      obtain ⟨A1, c1, e1, hc1, -⟩ := Kd.R_reads hO; subst e1
      have O1 := Aside0.mk hO; have L1 := Aside0.mk hc1; have D1 := Aside0.mk (H.out.1.bound.below hB); have B1 := Aside0.mk hB; have S1 := Aside0.mk hB.size; have GL1 := Aside0.mk (blk_below H.out.2.1 hB)
      have hc0 : w1.cell? ⟨gl, 0, none⟩ = some (.pointer (some ⟨g, 0, none⟩)) := (blk_cell GL1.out 0).trans rfl
      clear hO hB hc1
      go_wp2_with fail
      refine (d_Write (b := b) D1.out HO.out (own_lit O1.out (S := fun _ => False) (fun _ q => q.elim) w1 (Kept.refl _ _)) L1.out HBL.out (own_lit O1.out (fun k hk => hk.2))).mono ?_; rintro y w2 ⟨rfl, hD, hK, hB⟩
      rw [HR.out] at hD ⊢
      dsimp only at hD ⊢
      have W2 := Aside0.mk (IsT.step (T' := fun k => T k ∨ w.heap.size ≤ k) GL1.out (.inl H.out.2.2) (fun k hk => ⟨.inl hk.1.1, hk.1.2⟩) (fun k hk => .inr (Nat.le_trans S1.out hk)) hD hK); have K2 := Aside0.mk ((Kept.of_below B1.out T).then_ hK (fun k hk => .inl hk.1.1)); have BB2 := Aside0.mk ((below0 B1.out).trans hB)
      clear hD hK hB hc0
      have hc1 : w2.cell? ⟨gl, 1, none⟩ = some (.int .i64 n) := (blk_cell W2.out.2.1 1).trans rfl
      have hf1 := blk_frozen W2.out.2.1 1
      go_wp2_with fail
      go_ret
      refine ⟨rfl, ⟨W2.out.1.kept (S := fun k => k = gl) ((Kept.refl w2 (fun k => k = gl)).setCell (p := ⟨gl, 1, none⟩) (.inl rfl) (.int .i64 (n + 1))) (fun k hk e => hk.2 e), ?_, W2.out.2.2⟩, ?_, ?_⟩
      · exact blk_put W2.out.2.1 1 (.int .i64 (n + 1)) rfl
      · exact K2.out.setCell (p := ⟨gl, 1, none⟩) (.inl H.out.2.2) _
      · exact below0_set BB2.out _ _
    · have t1 : (er != 0) = true := bne_iff_ne.mpr he
      rw [if_neg he]
      clear he
      go_enter Try.func30, Try.ntmps30
      go_wp2_with fail
      refine (frame_Append.calls k none 0 [] A c x _ _ w (Kd.C_nil _ _) (Nat.le_refl _) HX.out HC.out HK.out).mono ?_; rintro e w1 ⟨v1, rfl, hO, hB⟩
      obtain ⟨A1, c1, e1, hc1, -⟩ := Kd.R_reads hO; subst e1
      have O1 := Aside0.mk hO; have L1 := Aside0.mk hc1; have D1 := Aside0.mk (H.out.1.bound.below hB); have B1 := Aside0.mk hB; have S1 := Aside0.mk hB.size; have GL1 := Aside0.mk (blk_below H.out.2.1 hB)
      have hc0 : w1.cell? ⟨gl, 0, none⟩ = some (.pointer (some ⟨g, 0, none⟩)) := (blk_cell GL1.out 0).trans rfl
      clear hO hB hc1
      go_wp2_with fail
      refine (d_Write (b := b) D1.out HO.out (own_lit O1.out (S := fun _ => False) (fun _ q => q.elim) w1 (Kept.refl _ _)) L1.out HBL.out (own_lit O1.out (fun k hk => hk.2))).mono ?_; rintro y w2 ⟨rfl, hD, hK, hB⟩
      rw [HR.out] at hD ⊢
      dsimp only at hD ⊢
      have W2 := Aside0.mk (IsT.step (T' := fun k => T k ∨ w.heap.size ≤ k) GL1.out (.inl H.out.2.2) (fun k hk => ⟨.inl hk.1.1, hk.1.2⟩) (fun k hk => .inr (Nat.le_trans S1.out hk)) hD hK); have K2 := Aside0.mk ((Kept.of_below B1.out T).then_ hK (fun k hk => .inl hk.1.1)); have BB2 := Aside0.mk ((below0 B1.out).trans hB)
      clear hD hK hB hc0
      go_wp2_with fail
      go_ret
      exact ⟨rfl, W2.out, K2.out, BB2.out⟩
end Go.Proofs.Ythpdmjpimeibnaa.M
