/-
  A log on a disk: what its methods come to.
-/
import Derived.Test.YthpdmjpimeibnaaODisk6
import Derived.Test.YthpdmjpimeibnaaPFrame6
namespace Go.Proofs.Ythpdmjpimeibnaa.M
open Go.RowKit Go.Proofs.YthpdmjpimeibnaaW.PrintWords Go.Proofs.YthpdmjpimeibnaaW.PrintLast Go.Proofs.YthpdmjpimeibnaaW.PrintMore
set_option linter.unusedVariables false
set_option linter.unusedSimpArgs false
/-- a log at block gl over the disk at block g -/
def IsW (N : Nat) (w : World) (g gl : Nat) (d : DS) (n : Int) : Prop :=
  IsD (fun k => N ≤ k ∧ k ≠ gl) w g d ∧ w.heap[gl]? = some (.cells #[.pointer (some ⟨g, 0, none⟩), .int .i64 n] 81 (0, 0)) ∧ N ≤ gl
theorem IsW.below {N : Nat} {w w' : World} {g gl : Nat} {d : DS} {n : Int} (h : IsW N w g gl d n) (hb : Below w.heap.size w w') : IsW N w' g gl d n := ⟨h.1.below hb, blk_below h.2.1 hb, h.2.2⟩
/-- from what an operation on the disk leaves -/
theorem IsW.step {N : Nat} {w w' : World} {g gl : Nat} {d' : DS} {n : Int} {P : Nat → Prop} (h2 : w.heap[gl]? = some (.cells #[.pointer (some ⟨g, 0, none⟩), .int .i64 n] 81 (0, 0))) (h3 : N ≤ gl) (hN : N ≤ w.heap.size) (hP : ∀ k, P k → N ≤ k ∧ k ≠ gl)
    (hd : IsD (fun k => P k ∨ w.heap.size ≤ k) w' g d') (hk : Kept w w' P) (hb : Below 0 w w') : IsW N w' g gl d' n ∧ Below N w w' :=
  ⟨⟨hd.mono (fun k hk => hk.elim (hP k) (fun q => ⟨Nat.le_trans hN q, fun e => by subst e; exact absurd (blk_lt h2) (Nat.not_lt.mpr q)⟩)), (hk.2 gl (blk_lt h2) (fun q => (hP gl q).2 rfl)).trans h2, h3⟩, kept_belowN hb hk (fun k q => (hP k q).1) hN⟩
theorem d_SyncK {P : Nat → Prop} {w : World} {g : Nat} {d : DS} (h : IsD P w g d) (ho : d.Ok) :
    Calls Try.prog 15 #[.pointer (some ⟨g, 0, none⟩)] w fun x w' => x = .returned (.int .i64 d.sync.2) ∧ IsD (fun k => P k ∨ w.heap.size ≤ k) w' g d.sync.1 ∧ Kept w w' P ∧ Below 0 w w' := by
  unfold DS.sync
  by_cases hd : d.down = true
  · rw [if_pos hd]
    exact (d_Sync_down h hd).mono fun x w' ⟨h1, h2, h3, h4⟩ => ⟨h1, h2.mono (fun k hk => .inl hk), h3, h4⟩
  · rw [if_neg hd]
    exact (d_Sync h ho (by simpa using hd)).mono fun x w' ⟨h1, h2, h3, h4⟩ => ⟨h1, h2, h3, h4⟩
set_option maxHeartbeats 4000000 in
set_option maxRecDepth 100000 in
theorem l_Sync {N : Nat} {w : World} {g gl : Nat} {d : DS} {n : Int} (h : IsW N w g gl d n) (ho : d.Ok) (hN : N ≤ w.heap.size) :
    Calls Try.prog 31 #[.pointer (some ⟨gl, 0, none⟩)] w fun x w' => x = .returned (.int .i64 d.sync.2) ∧ IsW N w' g gl d.sync.1 n ∧ Below N w w' := by
  have H := Aside0.mk h; have HO := Aside0.mk ho; have HN := Aside0.mk hN
  have hc0 : w.cell? ⟨gl, 0, none⟩ = some (.pointer (some ⟨g, 0, none⟩)) := (blk_cell h.2.1 0).trans rfl
  clear h ho hN
  go_enter Try.func31, Try.ntmps31
  go_wp2_with fail
  refine (d_SyncK H.out.1 HO.out).mono ?_; rintro x w1 ⟨rfl, hD, hK, hB⟩; have W1 := Aside0.mk (IsW.step H.out.2.1 H.out.2.2 HN.out (fun k hk => hk) hD hK hB); clear hD hK hB
  go_wp2_with fail
  go_ret
  exact ⟨rfl, W1.out⟩
set_option maxHeartbeats 4000000 in
set_option maxRecDepth 100000 in
theorem l_Len {N : Nat} {w : World} {g gl : Nat} {d : DS} {n : Int} (h : IsW N w g gl d n) :
    Calls Try.prog 28 #[.pointer (some ⟨gl, 0, none⟩)] w fun x w' => x = .returned (.int .i64 n) ∧ IsW N w' g gl d n ∧ Below w.heap.size w w' := by
  have H := Aside0.mk h
  have hc0 : w.cell? ⟨gl, 1, none⟩ = some (.int .i64 n) := (blk_cell h.2.1 1).trans rfl
  clear h
  go_enter Try.func28, Try.ntmps28
  go_wp2_with fail
  go_ret
  exact ⟨rfl, H.out, Below.refl _ _⟩
/-- a record is put: the disk, the error, how many there are -/
def DS.put (d : DS) (x : List Int) (n : Int) : DS × Int × Int :=
  if 16384 < x.length then (d, 2, n) else ((d.write (Pure.Frame.rec_ x)).1, (d.write (Pure.Frame.rec_ x)).2, if (d.write (Pure.Frame.rec_ x)).2 = 0 then n + 1 else n)
set_option maxHeartbeats 4000000 in
set_option maxRecDepth 100000 in
theorem l_Put {N : Nat} {w : World} {g gl : Nat} {d : DS} {n : Int} {A : Option Addr} {c : Nat} {x : List Int} (h : IsW N w g gl d n) (ho : d.Ok) (hN : N ≤ w.heap.size) (hx : Kd.C (Kd.int .u8) w A x.length x) (hc : x.length ≤ c) (hxb : Pure.Frame.Bytes x) (hn : 0 ≤ n ∧ n < 1000000) :
    Calls Try.prog 30 #[.pointer (some ⟨gl, 0, none⟩), .slice A x.length c] w fun y w' => y = .returned (.int .i64 (d.put x n).2.1) ∧ IsW N w' g gl (d.put x n).1 (d.put x n).2.2 ∧ Below N w w' := by
  have H := Aside0.mk h; have HO := Aside0.mk ho; have HN := Aside0.mk hN; have HX := Aside0.mk hx; have HC := Aside0.mk hc
  have hw : wrap64 (n + 1) = n + 1 := by unfold wrap64; omega
  unfold DS.put
  by_cases hl : 16384 < x.length
  · obtain ⟨k, hk⟩ := (Pure.Frame.append_long [] x hl).rounds
    have HK := Aside0.mk hk
    rw [if_pos hl]
    clear h ho hN hx hc hxb hn hl hk
    go_enter Try.func30, Try.ntmps30
    go_wp2_with fail
    refine (frame_Append.calls k none 0 [] A c x _ _ w (Kd.C_nil _ _) (Nat.le_refl _) HX.out HC.out HK.out).mono ?_; rintro e w1 ⟨v1, rfl, hO, hB⟩; have W1 := Aside0.mk (H.out.below hB); have B1 := Aside0.mk (hB.mono HN.out); clear hO hB
    go_wp2_with fail
    go_ret
    exact ⟨rfl, W1.out, B1.out⟩
  · obtain ⟨k, hk⟩ := (Pure.Frame.append_ev [] x hxb (by omega) (by simp)).rounds
    rw [List.nil_append] at hk
    have HK := Aside0.mk hk
    have hbl : (Pure.Frame.rec_ x).length < 4194304 := by rw [Pure.Frame.rec_length]; omega
    have HBL := Aside0.mk hbl
    rw [if_neg hl]
    obtain ⟨b, hb⟩ : ∃ b, b = Pure.Frame.rec_ x := ⟨_, rfl⟩
    rw [← hb] at HK HBL ⊢
    obtain ⟨r, er, hr⟩ : ∃ r er, d.write b = (r, er) := ⟨_, _, rfl⟩
    rw [hr]
    dsimp only
    have HR := Aside0.mk hr
    clear h ho hN hx hc hxb hn hl hk hbl hb hr
    by_cases he : er = 0
    · subst he
      rw [if_pos rfl]
      go_enter Try.func30, Try.ntmps30
      go_wp2_with fail
      refine (frame_Append.calls k none 0 [] A c x _ _ w (Kd.C_nil _ _) (Nat.le_refl _) HX.out HC.out HK.out).mono ?_; rintro e w1 ⟨v1, rfl, hO, hB⟩
      obtain ⟨A1, c1, e1, hc1, -⟩ := Kd.R_reads hO; subst e1
      have O1 := Aside0.mk hO; have L1 := Aside0.mk hc1; have D1 := Aside0.mk (H.out.1.bound.below hB); have B1 := Aside0.mk (hB.mono HN.out); have S1 := Aside0.mk hB.size; have GL1 := Aside0.mk (blk_below H.out.2.1 hB)
      have hc0 : w1.cell? ⟨gl, 0, none⟩ = some (.pointer (some ⟨g, 0, none⟩)) := (blk_cell GL1.out 0).trans rfl
      clear hO hB hc1
      go_wp2_with fail
      refine (d_Write (b := b) D1.out HO.out (own_lit O1.out (S := fun _ => False) (fun _ q => q.elim) w1 (Kept.refl _ _)) L1.out HBL.out (own_lit O1.out (fun k hk => hk.2))).mono ?_; rintro y w2 ⟨rfl, hD, hK, hB⟩
      rw [HR.out] at hD ⊢
      dsimp only at hD ⊢
      have W2 := Aside0.mk (IsW.step GL1.out H.out.2.2 (Nat.le_trans HN.out S1.out) (fun k hk => hk.1) hD hK hB)
      clear hD hK hB hc0
      have hc1 : w2.cell? ⟨gl, 1, none⟩ = some (.int .i64 n) := (blk_cell W2.out.1.2.1 1).trans rfl
      have hf1 := blk_frozen W2.out.1.2.1 1
      go_wp2_with fail
      go_ret
      refine ⟨rfl, ⟨W2.out.1.1.kept (S := fun k => k = gl) ((Kept.refl w2 (fun k => k = gl)).setCell (p := ⟨gl, 1, none⟩) (.inl rfl) (.int .i64 (n + 1))) (fun k hk e => hk.2 e), ?_, W2.out.1.2.2⟩, ?_⟩
      · exact blk_put W2.out.1.2.1 1 (.int .i64 (n + 1)) rfl
      · exact below_setB (B1.out.trans W2.out.2) (p := ⟨gl, 1, none⟩) W2.out.1.2.2 _
    · have t1 : (er != 0) = true := bne_iff_ne.mpr he
      rw [if_neg he]
      clear he
      go_enter Try.func30, Try.ntmps30
      go_wp2_with fail
      refine (frame_Append.calls k none 0 [] A c x _ _ w (Kd.C_nil _ _) (Nat.le_refl _) HX.out HC.out HK.out).mono ?_; rintro e w1 ⟨v1, rfl, hO, hB⟩
      obtain ⟨A1, c1, e1, hc1, -⟩ := Kd.R_reads hO; subst e1
      have O1 := Aside0.mk hO; have L1 := Aside0.mk hc1; have D1 := Aside0.mk (H.out.1.bound.below hB); have B1 := Aside0.mk (hB.mono HN.out); have S1 := Aside0.mk hB.size; have GL1 := Aside0.mk (blk_below H.out.2.1 hB)
      have hc0 : w1.cell? ⟨gl, 0, none⟩ = some (.pointer (some ⟨g, 0, none⟩)) := (blk_cell GL1.out 0).trans rfl
      clear hO hB hc1
      go_wp2_with fail
      refine (d_Write (b := b) D1.out HO.out (own_lit O1.out (S := fun _ => False) (fun _ q => q.elim) w1 (Kept.refl _ _)) L1.out HBL.out (own_lit O1.out (fun k hk => hk.2))).mono ?_; rintro y w2 ⟨rfl, hD, hK, hB⟩
      rw [HR.out] at hD ⊢
      dsimp only at hD ⊢
      have W2 := Aside0.mk (IsW.step GL1.out H.out.2.2 (Nat.le_trans HN.out S1.out) (fun k hk => hk.1) hD hK hB)
      clear hD hK hB hc0
      go_wp2_with fail
      go_ret
      exact ⟨rfl, W2.out.1, B1.out.trans W2.out.2⟩
def DS.add (d : DS) (x : List Int) (n : Int) : DS × Int × Int :=
  if (d.put x n).2.1 = 0 then ((d.put x n).1.sync.1, (d.put x n).1.sync.2, (d.put x n).2.2) else d.put x n
set_option maxHeartbeats 4000000 in
set_option maxRecDepth 100000 in
theorem l_Add {N : Nat} {w : World} {g gl : Nat} {d : DS} {n : Int} {A : Option Addr} {c : Nat} {x : List Int} (h : IsW N w g gl d n) (ho : d.Ok) (ho2 : (d.put x n).1.Ok) (hN : N ≤ w.heap.size) (hx : Kd.C (Kd.int .u8) w A x.length x) (hc : x.length ≤ c) (hxb : Pure.Frame.Bytes x) (hn : 0 ≤ n ∧ n < 1000000) :
    Calls Try.prog 27 #[.pointer (some ⟨gl, 0, none⟩), .slice A x.length c] w fun y w' => y = .returned (.int .i64 (d.add x n).2.1) ∧ IsW N w' g gl (d.add x n).1 (d.add x n).2.2 ∧ Below N w w' := by
  have HP := Aside0.mk (l_Put h ho hN hx hc hxb hn)
  have HN := Aside0.mk hN
  unfold DS.add
  obtain ⟨r, er, m, hr⟩ : ∃ r er m, d.put x n = (r, er, m) := ⟨_, _, _, rfl⟩
  rw [hr] at HP ho2 ⊢
  dsimp only at HP ho2 ⊢
  have HO := Aside0.mk ho2
  clear h ho ho2 hN hx hc hxb hn hr
  by_cases he : er = 0
  · subst he
    rw [if_pos rfl]
    go_enter Try.func27, Try.ntmps27
    go_wp2_with fail
    refine HP.out.mono ?_; rintro y w1 ⟨rfl, hW, hB⟩; have W1 := Aside0.mk hW; have B1 := Aside0.mk hB; clear hW hB
    go_wp2_with fail
    refine (l_Sync W1.out HO.out (Nat.le_trans HN.out B1.out.size)).mono ?_; rintro y w2 ⟨rfl, hW, hB⟩; have W2 := Aside0.mk hW; have B2 := Aside0.mk (B1.out.trans hB); clear hW hB
    go_wp2_with fail
    go_ret
    exact ⟨rfl, W2.out, B2.out⟩
  · have t1 : (er != 0) = true := bne_iff_ne.mpr he
    rw [if_neg he]
    clear he
    go_enter Try.func27, Try.ntmps27
    go_wp2_with fail
    refine HP.out.mono ?_; rintro y w1 ⟨rfl, hW, hB⟩; have W1 := Aside0.mk hW; have B1 := Aside0.mk hB; clear hW hB
    go_wp2_with fail
    go_ret
    exact ⟨rfl, W1.out, B1.out⟩
end Go.Proofs.Ythpdmjpimeibnaa.M
