/-
  What a disk's methods come to (writing, renewing, reading, a crash, up again).
-/
import Derived.Test.YthpdmjpimeibnaaODisk2
import Derived.Laws.IdiomCopy
namespace Go.Proofs.Ythpdmjpimeibnaa.M
open Go.RowKit Go.Proofs.YthpdmjpimeibnaaW.PrintWords Go.Proofs.YthpdmjpimeibnaaW.PrintLast Go.Proofs.YthpdmjpimeibnaaW.PrintMore
set_option linter.unusedVariables false
set_option linter.unusedSimpArgs false
attribute [local go_sem] max2_int min2_int max_two min_two   -- for this text alone
theorem IsD.appended {P : Nat → Prop} {W w1 : World} {g : Nat} {d : DS} {vs va v1 : Value} {xs : List Int} (h1 : W.heap[g]? = some (.cells #[.int .i64 d.room, vs, va, .bool d.renew, .bool d.down, .int .i64 d.fuse] 70 (0, 0))) (h2 : P g)
    (h3 : Kd.R (Kd.int .u8) 5 W 0 (fun k => P k ∧ some k ≠ va.ownBlock) vs d.sure) (hv : Kd.R (Kd.int .u8) 5 w1 0 (fun k => (P k ∨ W.heap.size ≤ k) ∧ some k ≠ vs.ownBlock) v1 xs)
    (hg : W.grownBy w1 va.ownBlock) (hat : v1.ownBlock = va.ownBlock ∨ ∃ b, v1.ownBlock = some b ∧ W.heap.size ≤ b) (hne : some g ≠ va.ownBlock) :
    IsD (fun k => P k ∨ W.heap.size ≤ k) (w1.setCell ⟨g, 2, none⟩ v1) g { d with all := xs } := by
  have h1' := blk_grown h1 hg hne
  exact ⟨vs, v1, blk_put h1' 2 v1 rfl, .inl h2, Kd.R_set (Kd.R_mono (Kd.R_after h3 hg hat) (fun k hk => ⟨.inl hk.1, hk.2⟩)) h1' ne70 2 _, Kd.R_set hv h1' ne70 2 _⟩
theorem R_setCells {b base n cap : Nat} {ok : Nat → Prop} : ∀ (ys : List Int) (o : Nat) (w : World) (xs : List Int), Kd.R (Kd.int .u8) 5 w base ok (.slice (some ⟨b, 0, none⟩) n cap) xs → o + ys.length ≤ xs.length →
    Kd.R (Kd.int .u8) 5 (w.setCells b o (ys.map (Value.int .u8))) base ok (.slice (some ⟨b, 0, none⟩) n cap) (xs.take o ++ ys ++ xs.drop (o + ys.length)) := by
  intro ys
  induction ys with
  | nil => intro o w xs h _; simpa [World.setCells, List.take_append_drop] using h
  | cons y ys ih =>
    intro o w xs h hl
    simp only [List.length_cons] at hl
    have h1 := Kd.R_putn h (o : Int) y
    rw [Int.toNat_natCast] at h1
    have h2 := ih (o + 1) _ _ h1 (by rw [List.length_set]; omega)
    have e : (xs.set o y).take (o + 1) ++ ys ++ (xs.set o y).drop (o + 1 + ys.length) = xs.take o ++ (y :: ys) ++ xs.drop (o + (y :: ys).length) := by
      rw [List.drop_set_of_lt (by omega), List.take_set, List.take_succ_eq_append_getElem (by omega), List.set_append_right _ _ (by rw [List.length_take]; omega)]
      have e1 : o - (xs.take o).length = 0 := by rw [List.length_take]; omega
      rw [e1, List.length_cons, show o + 1 + ys.length = o + (ys.length + 1) by omega]
      simp only [List.set_cons_zero, List.append_assoc, List.singleton_append]
    rw [e] at h2
    exact h2
def DS.room' (d : DS) (n : Nat) : Bool := decide ((n : Int) > d.room - d.all.length)
def DS.write (d : DS) (b : List Int) : DS × Int :=
  if d.down = true then (d, 60) else if (b.length : Int) > d.room - d.all.length then (d, 3)
  else ({ (d.burn b.length).1 with all := d.all ++ b.take (d.burn b.length).2.1.toNat }, if (d.burn b.length).2.2 = true then 0 else 60)
theorem burn_all (d : DS) (n : Int) : (d.burn n).1.all = d.all ∧ (d.burn n).1.sure = d.sure ∧ (d.burn n).1.room = d.room ∧ (d.burn n).1.renew = d.renew := by
  unfold DS.burn
  split
  · exact ⟨rfl, rfl, rfl, rfl⟩
  · split <;> exact ⟨rfl, rfl, rfl, rfl⟩
theorem burn_le {d : DS} {n : Int} (hn : 0 ≤ n) : 0 ≤ (d.burn n).2.1 ∧ (d.burn n).2.1 ≤ n := by
  unfold DS.burn
  split
  · exact ⟨hn, Int.le_refl _⟩
  · split
    · exact ⟨by simp only; omega, by simp only; omega⟩
    · exact ⟨hn, Int.le_refl _⟩
set_option maxHeartbeats 4000000 in
set_option maxRecDepth 100000 in
theorem d_Write {P : Nat → Prop} {w : World} {g : Nat} {d : DS} {A : Option Addr} {c : Nat} {b : List Int} (h : IsD P w g d) (ho : d.Ok) (hb : Kd.C (Kd.int .u8) w A b.length b) (hbc : b.length ≤ c) (hbl : b.length < 4194304) (hbP : ∀ w', Kept w w' P → Kd.C (Kd.int .u8) w' A b.length b) :
    Calls Try.prog 14 #[.pointer (some ⟨g, 0, none⟩), .slice A b.length c] w fun x w' => x = .returned (.int .i64 (d.write b).2) ∧ IsD (fun k => P k ∨ w.heap.size ≤ k) w' g (d.write b).1 ∧ Kept w w' P ∧ Below 0 w w' := by
  have h_ := Aside0.mk h
  have ho_ := Aside0.mk ho
  have D0 := Aside0.mk h
  have HB := Aside0.mk (below0 (Below.refl w.heap.size w)); have HK := Aside0.mk (Kept.refl w P)
  obtain ⟨vs, va, hcells, hP, hS, hA⟩ := h
  obtain ⟨As, cs, rfl⟩ := Kd.R_slice hS
  obtain ⟨Aa, ca, rfl⟩ := Kd.R_slice hA
  have PG := Aside0.mk hP; have HS := Aside0.mk hS; have HA := Aside0.mk hA; have HC := Aside0.mk hcells
  have hc0 : w.cell? ⟨g, 0, none⟩ = some (.int .i64 d.room) := (blk_cell hcells 0).trans rfl; have hcf0 := blk_frozen hcells 0; have hc2 : w.cell? ⟨g, 2, none⟩ = some (.slice Aa d.all.length ca) := (blk_cell hcells 2).trans rfl; have hcf2 := blk_frozen hcells 2; have hc4 : w.cell? ⟨g, 4, none⟩ = some (.bool d.down) := (blk_cell hcells 4).trans rfl; have hcf4 := blk_frozen hcells 4
  clear hcells hP hS hA

  have HBc := Aside0.mk hbc; have HBl := Aside0.mk hbl; have HbP := Aside0.mk hbP
  have t1 : wrap64 (d.room - (d.all.length : Int)) = d.room - (d.all.length : Int) := by have := ho.room1; have := ho.room0; have := ho.all_; unfold wrap64; omega
  have hall := Aside0.mk ho.all_
  unfold DS.write
  by_cases hd : d.down = true
  · rw [hd] at hc4
    rw [if_pos hd]
    clear hd ho hb hbc hbl hbP
    go_enter Try.func14, Try.ntmps14
    go_wp2
    go_ret
    exact ⟨rfl, D0.out.mono (fun k hk => .inl hk), HK.out, HB.out⟩
  · have hd2 : d.down = false := by simpa using hd
    rw [hd2] at hc4
    rw [if_neg hd]
    by_cases hf : (b.length : Int) > d.room - d.all.length
    · have t2 : decide ((b.length : Int) > d.room - d.all.length) = true := decide_eq_true hf
      have t3 : decide (d.room - d.all.length < (b.length : Int)) = true := decide_eq_true hf
      rw [if_pos hf]
      clear hd hd2 ho hb hbc hbl hbP hf
      go_enter Try.func14, Try.ntmps14
      go_wp2
      repeat (go_quiet (first | fail))
      go_wp2
      go_ret
      exact ⟨rfl, (D0.out.below (pw_below_drewN (Below.refl w.heap.size w) _)).mono (fun k hk => .inl hk), (Kept.refl w P).drewN _, below0 (pw_below_drewN (Below.refl 0 w) _)⟩
    have t2 : decide ((b.length : Int) > d.room - d.all.length) = false := decide_eq_false hf
    have t3 : decide (d.room - d.all.length < (b.length : Int)) = false := decide_eq_false hf
    rw [if_neg hf]
    have hall2 := Aside0.mk (show (d.all.length : Int) + b.length ≤ 4194304 by have := ho.room1; omega)
    have hb1 := burn_all d b.length
    have hb2 := burn_le (d := d) (n := (b.length : Int)) (by omega)
    have hbn := d_burn (P := P) (w := w) (g := g) (d := d) (n := (b.length : Int))
    obtain ⟨r, m, k, hr⟩ : ∃ r m k, d.burn b.length = (r, m, k) := ⟨_, _, _, rfl⟩
    rw [hr] at hb1 hb2
    dsimp only at hb1 hb2
    have HR := Aside0.mk hr
    obtain ⟨i0, hi0, _, hsz0, _⟩ := info_parts info5
    obtain ⟨hcut_, hcr, hcl⟩ := print_take_int (P := Try.prog) (k := .u8) 22 5 Try.underlying22 hi0 hsz0 A c b m hb2.1 hb2.2 HBc.out
    have hcut := hcut_
    have hcr := Aside0.mk hcr
    have HM := Aside0.mk hb2
    have HBA := Aside0.mk hb1
    clear hcut_ hcl hi0 hsz0 hd hd2 ho hb hbc hbl hbP hf hbn hb1 hb2
    rw [hr]
    clear hr
    go_enter Try.func14, Try.ntmps14
    go_wp2
    repeat (go_quiet (first | fail))
    have D1 := Aside0.mk (D0.out.below (pw_below_drewN (Below.refl w.heap.size w) nq))
    have K1 := Aside0.mk ((Kept.refl w P).drewN nq)
    have B1 := Aside0.mk (below0 (pw_below_drewN (Below.refl 0 w) nq))
    have S1 := Aside0.mk (show (w.drewN nq).heap.size = w.heap.size from rfl)
    clear hc0 hcf0 hc2 hcf2 hc4 hcf4 D0 HK HB
    generalize w.drewN nq = w1 at D1 K1 B1 S1 ⊢
    go_wp2_with fail
    refine (d_burn D1.out ho_.out (by omega)).mono ?_
    rintro x w5 ⟨rfl, hD, hK, hB⟩
    rw [HR.out] at hD ⊢
    dsimp only at hD ⊢
    have K5 := Aside0.mk (K1.out.then_ hK (fun k hk => .inl hk))
    have B5 := Aside0.mk (Below.trans B1.out hB)
    have S5 := Aside0.mk (show w.heap.size ≤ w5.heap.size by rw [← S1.out]; exact hB.size)
    clear HS HA HC PG
    obtain ⟨vs, va, hcells, hP, hS, hA⟩ := hD
    obtain ⟨As, cs, rfl⟩ := Kd.R_slice hS
    obtain ⟨Aa, ca, rfl⟩ := Kd.R_slice hA
    have PG := Aside0.mk hP; have HS5 := Aside0.mk hS; have HA5 := Aside0.mk hA; have HC5 := Aside0.mk hcells
    have CC := Aside0.mk (Kd.C_drew (Kd.C_of_reads (h1 := fun _ => rfl) (hcr.out _ (Kd.reads_of_C (HbP.out w5 K5.out)))))
    have LL := Aside0.mk (show (r.all.length + min m.toNat b.length) * 1 ≤ 140737488355328 by
      have := hall2.out; have := HBl.out; have e := HBA.out.1; rw [e]; omega)
    clear hcells hP hS hA hK hB
    go_wp2_with fail
    refine start_ (n := 12) (S := fun w' => w'.cell? ⟨g, 2, none⟩ = some (.slice Aa r.all.length ca)) (ds := [11]) #[false, false, false, false, false, false, false, false, false, false, false, false] (by kernel_rfl) rfl rfl (((blk_cell (blk_drew HC5.out) 2).trans rfl)) (fun hHeld => ?_)
    refine pure_ (i := 0) (N := some 33) (v := ?_) (a' := ?_) #[true, false, false, false, false, false, false, false, false, false, false, false] rfl rfl (by kernel_rfl) (fun _ _ _ h => h) (Or.inl ⟨by rfl, ?_⟩) ?_ ?_
    rotate_left
    · intro w'
      go_simp
      with_reducible rfl
    rotate_left
    · simp only [Act.put, List.setIfInBounds_toArray, List.set_cons_zero, List.set_cons_succ, i64_w, i32_w]
      rfl
    refine pure_ (i := 1) (N := some 34) (v := ?_) (a' := ?_) #[true, true, false, false, false, false, false, false, false, false, false, false] rfl rfl (by kernel_rfl) (fun _ _ _ h => h) (Or.inl ⟨by rfl, ?_⟩) ?_ ?_
    rotate_left
    · intro w'
      go_simp
      with_reducible rfl
    rotate_left
    · simp only [Act.put, List.setIfInBounds_toArray, List.set_cons_zero, List.set_cons_succ, i64_w, i32_w]
      rfl
    refine pure_ (i := 2) (N := some 35) (v := ?_) (a' := ?_) #[true, true, true, false, false, false, false, false, false, false, false, false] rfl rfl (by kernel_rfl) (fun _ _ _ h => h) (Or.inl ⟨by rfl, ?_⟩) ?_ ?_
    rotate_left
    · intro w'
      go_simp
      with_reducible rfl
    rotate_left
    · simp only [Act.put, List.setIfInBounds_toArray, List.set_cons_zero, List.set_cons_succ, i64_w, i32_w]
      rfl
    refine pure_ (i := 3) (N := some 36) (v := ?_) (a' := ?_) #[true, true, true, true, false, false, false, false, false, false, false, false] rfl rfl (by kernel_rfl) (fun _ _ _ h => h) (Or.inl ⟨by rfl, ?_⟩) ?_ ?_
    rotate_left
    · intro w'
      go_simp
      with_reducible rfl
    rotate_left
    · simp only [Act.put, List.setIfInBounds_toArray, List.set_cons_zero, List.set_cons_succ, i64_w, i32_w]
      rfl
    refine pure_ (i := 5) (N := some 38) (v := ?_) (a' := ?_) #[true, true, true, true, false, true, false, false, false, false, false, false] rfl rfl (by kernel_rfl) (fun _ _ _ h => h) (Or.inl ⟨by rfl, ?_⟩) ?_ ?_
    rotate_left
    · intro w'
      go_simp
      with_reducible rfl
    rotate_left
    · simp only [Act.put, List.setIfInBounds_toArray, List.set_cons_zero, List.set_cons_succ, i64_w, i32_w]
      rfl
    refine pure_ (i := 6) (N := some 39) (v := ?_) (a' := ?_) #[true, true, true, true, false, true, true, false, false, false, false, false] rfl rfl (by kernel_rfl) (fun _ _ _ h => h) (Or.inl ⟨by rfl, ?_⟩) ?_ ?_
    rotate_left
    · intro w'
      go_simp
      with_reducible rfl
    rotate_left
    · simp only [Act.put, List.setIfInBounds_toArray, List.set_cons_zero, List.set_cons_succ, i64_w, i32_w]
      rfl
    refine pure_ (i := 7) (N := some 40) (v := ?_) (a' := ?_) #[true, true, true, true, false, true, true, true, false, false, false, false] rfl rfl (by kernel_rfl) (fun _ _ _ h => h) (Or.inl ⟨by rfl, ?_⟩) ?_ ?_
    rotate_left
    · intro w'
      go_simp
      with_reducible rfl
    rotate_left
    · simp only [Act.put, List.setIfInBounds_toArray, List.set_cons_zero, List.set_cons_succ, i64_w, i32_w]
      rfl
    refine take_ (i := 4) (N := some 37) (v := ?_) (a' := ?_) #[true, true, true, true, true, true, true, true, false, false, false, false] rfl rfl (by kernel_rfl) (fun _ _ _ h => h) (Or.inl ⟨by rfl, ?_⟩) hHeld ?_ ?_
    rotate_left
    · intro w' s0
      go_simp
      with_reducible rfl
    rotate_left
    · simp only [Act.put, List.setIfInBounds_toArray, List.set_cons_zero, List.set_cons_succ, i64_w, i32_w]
      rfl
    refine one_ (i := 8) (N := some 41) #[true, true, true, true, true, true, true, true, true, false, false, false] rfl rfl (by kernel_rfl) (by decide) (fun K hK => ?_)
    refine Kd.R_append_rows_step (Kd.int .u8) (w0 := w5.drew) 0 (by rfl) (.tmp 37) (.tmp 40) 22 5 (.int .u8 0) 1 rfl Try.underlying22 info5 rfl (by decide) (by omega) (.slice Aa r.all.length ca) r.all (b.take m.toNat) _ _ _ (fun k => (P k ∨ w5.drew.heap.size ≤ k) ∧ some k ≠ (Value.slice As r.sure.length cs).ownBlock) (fun _ => False) rfl rfl ?aO ?aR (fun _ _ h => h) (fun _ h => h.elim) ?aF ?aB ?aS ?aL ?_
    (case aR => have e_ : min m.toNat b.length = (b.take m.toNat).length := (List.length_take).symm; rw [e_]; exact CC.out)
    (case aB => exact Below.refl _ _)
    (case aF => exact (fun k hk => ⟨.inr hk, fun e => absurd (Kd.R_lt HS5.out k e.symm) (Nat.not_lt.mpr hk)⟩))
    (case aO => exact Kd.R_mono (Kd.R_drew HA5.out) (fun k hk => ⟨.inl hk.1, hk.2⟩))
    (case aS => exact Nat.zero_le _)
    (case aL => exact LL.out)
    intro v2 w6 ho hb hg hat
    obtain ⟨A2, c2, e2_⟩ := Kd.R_slice ho
    subst e2_
    have DD := Aside0.mk (IsD.appended (blk_drew HC5.out) PG.out (Kd.R_drew HS5.out) ho hg hat (Kd.R_ne HA5.out HC5.out (by decide)))
    have KK := Aside0.mk (Kept.of_grown hg (Kept.refl w5.drew P) (fun k hk => .inl (HA5.out.1 k hk).1))
    have BB := Aside0.mk hb
    have hcs : w6.cell? ⟨g, 2, none⟩ = some (.slice Aa r.all.length ca) := (blk_cell (blk_grown (blk_drew HC5.out) hg (Kd.R_ne HA5.out HC5.out (by decide))) 2).trans rfl
    have hfs := blk_frozen (blk_grown (blk_drew HC5.out) hg (Kd.R_ne HA5.out HC5.out (by decide))) 2
    clear ho hb hg hat
    refine hK.out _ _ (hcs) (fun hHeld => ?_)
    clear hK K
    refine norm_ (a' := ?_) ?_ ?_
    rotate_left
    · show Act.put _ (some 41) _ = _
      simp only [Act.put, List.setIfInBounds_toArray, List.set_cons_zero, List.set_cons_succ, i64_w, i32_w]
      rfl
    refine pure_ (i := 9) (N := some 42) (v := ?_) (a' := ?_) #[true, true, true, true, true, true, true, true, true, true, false, false] rfl rfl (by kernel_rfl) (fun _ _ _ h => h) (Or.inl ⟨by rfl, ?_⟩) ?_ ?_
    rotate_left
    · intro w'
      go_simp
      with_reducible rfl
    rotate_left
    · simp only [Act.put, List.setIfInBounds_toArray, List.set_cons_zero, List.set_cons_succ, i64_w, i32_w]
      rfl
    refine pure_ (i := 10) (N := some 43) (v := ?_) (a' := ?_) #[true, true, true, true, true, true, true, true, true, true, true, false] rfl rfl (by kernel_rfl) (fun _ _ _ h => h) (Or.inl ⟨by rfl, ?_⟩) ?_ ?_
    rotate_left
    · intro w'
      go_simp
      with_reducible rfl
    rotate_left
    · simp only [Act.put, List.setIfInBounds_toArray, List.set_cons_zero, List.set_cons_succ, i64_w, i32_w]
      rfl
    refine last_ (i := 11) (N := none) #[true, true, true, true, true, true, true, true, true, true, true, true] rfl rfl (by kernel_rfl) (by decide) (fun K hK => ?_)
    refine skip_ (w1 := ?_) (by rfl) rfl ?_ ?_
    rotate_left
    · go_simp
      rfl
    refine hK.out _ _ ?_
    clear hK K
    refine done_ (by kernel_rfl) ?_
    have D9 := Aside0.mk (DD.out.mono (P' := fun k => P k ∨ w.heap.size ≤ k) (fun k hk => hk.imp id (fun q => Nat.le_trans S5.out q)))
    have K9 := Aside0.mk (kept_set (K5.out.then_ KK.out (fun k hk => .inl hk)) PG.out 2 (.slice A2 (r.all ++ b.take m.toNat).length c2))
    have B9 := Aside0.mk (below0_set (Below.trans B5.out (Below.trans (below_drew (Below.refl 0 w5)) BB.out)) ⟨g, 2, none⟩ (.slice A2 (r.all ++ b.take m.toNat).length c2))
    clear hcs hfs hcut t1 t2 t3
    rw [HBA.out.1] at D9 K9 B9 ⊢
    simp only [List.length_append, List.length_take] at D9 K9 B9
    cases k
    · go_wp2
      go_ret
      exact ⟨rfl, D9.out, K9.out, B9.out⟩
    · go_wp2
      go_ret
      exact ⟨rfl, D9.out, K9.out, B9.out⟩
def DS.renewW (d : DS) (b : List Int) : DS × Int :=
  if d.down = true then (d, 60) else if (b.length : Int) > d.room then (d, 3)
  else if (d.burn b.length).2.2 = true then ({ (d.burn b.length).1 with all := b, renew := true }, 0) else ((d.burn b.length).1, 60)
set_option maxHeartbeats 4000000 in
set_option maxRecDepth 100000 in
theorem d_Renew {P : Nat → Prop} {w : World} {g : Nat} {d : DS} {A : Option Addr} {c : Nat} {b : List Int} (h : IsD P w g d) (ho : d.Ok) (hbc : b.length ≤ c) (hbl : b.length < 4194304) (hbP : ∀ w', Kept w w' P → Kd.C (Kd.int .u8) w' A b.length b) :
    Calls Try.prog 20 #[.pointer (some ⟨g, 0, none⟩), .slice A b.length c] w fun x w' => x = .returned (.int .i64 (d.renewW b).2) ∧ IsD (fun k => P k ∨ w.heap.size ≤ k) w' g (d.renewW b).1 ∧ Kept w w' P ∧ Below 0 w w' := by
  have ho_ := Aside0.mk ho
  have D0 := Aside0.mk h
  have HB := Aside0.mk (below0 (Below.refl w.heap.size w)); have HK := Aside0.mk (Kept.refl w P)
  obtain ⟨vs, va, hcells, hP, hS, hA⟩ := h
  obtain ⟨As, cs, rfl⟩ := Kd.R_slice hS
  obtain ⟨Aa, ca, rfl⟩ := Kd.R_slice hA
  have PG := Aside0.mk hP; have HS := Aside0.mk hS; have HA := Aside0.mk hA; have HC := Aside0.mk hcells
  have hc0 : w.cell? ⟨g, 0, none⟩ = some (.int .i64 d.room) := (blk_cell hcells 0).trans rfl; have hcf0 := blk_frozen hcells 0; have hc4 : w.cell? ⟨g, 4, none⟩ = some (.bool d.down) := (blk_cell hcells 4).trans rfl; have hcf4 := blk_frozen hcells 4
  clear hcells hP hS hA

  have HBc := Aside0.mk hbc; have HBl := Aside0.mk hbl; have HbP := Aside0.mk hbP
  unfold DS.renewW
  by_cases hd : d.down = true
  · rw [hd] at hc4
    rw [if_pos hd]
    clear hd ho hbc hbl hbP
    go_enter Try.func20, Try.ntmps20
    go_wp2
    go_ret
    exact ⟨rfl, D0.out.mono (fun k hk => .inl hk), HK.out, HB.out⟩
  · have hd2 : d.down = false := by simpa using hd
    rw [hd2] at hc4
    rw [if_neg hd]
    by_cases hf : (b.length : Int) > d.room
    · have t2 : decide ((b.length : Int) > d.room) = true := decide_eq_true hf
      have t3 : decide (d.room < (b.length : Int)) = true := decide_eq_true hf
      rw [if_pos hf]
      clear hd hd2 ho hbc hbl hbP hf
      go_enter Try.func20, Try.ntmps20
      go_wp2
      go_ret
      exact ⟨rfl, D0.out.mono (fun k hk => .inl hk), HK.out, HB.out⟩
    have t2 : decide ((b.length : Int) > d.room) = false := decide_eq_false hf
    have t3 : decide (d.room < (b.length : Int)) = false := decide_eq_false hf
    rw [if_neg hf]
    obtain ⟨r, m, k, hr⟩ : ∃ r m k, d.burn b.length = (r, m, k) := ⟨_, _, _, rfl⟩
    have HR := Aside0.mk hr
    clear hd hd2 ho hbc hbl hbP hf
    rw [hr]
    clear hr
    go_enter Try.func20, Try.ntmps20
    go_wp2_with fail
    refine (d_burn D0.out ho_.out (by omega)).mono ?_
    rintro x w5 ⟨rfl, hD, hK, hB⟩
    rw [HR.out] at hD ⊢
    dsimp only at hD ⊢
    have K5 := Aside0.mk hK
    have B5 := Aside0.mk hB
    have D5 := Aside0.mk hD
    have S5 := Aside0.mk hB.size
    clear HS HA HC PG hc0 hcf0 hc4 hcf4
    cases k
    · go_wp2
      go_ret
      exact ⟨rfl, D5.out.mono (fun k hk => .inl hk), K5.out, B5.out⟩
    obtain ⟨vs, va, hcells, hP, hS, hA⟩ := hD
    obtain ⟨As, cs, rfl⟩ := Kd.R_slice hS
    obtain ⟨Aa, ca, rfl⟩ := Kd.R_slice hA
    have PG := Aside0.mk hP; have HC5 := Aside0.mk hcells
    have CB := Aside0.mk (HbP.out w5 K5.out)
    clear hcells hP hS hA hK hB
    go_wp2_with (first | ((with_reducible refine gate_dst (N := 31) rfl ?_); refine Kd.R_lit (Kd.int .u8) _ 5 ?hg (N := 31) ?hd (xs := ([] : List Int)) (inner := []) (ok := fun _ => True) (okp := fun _ => True) ?hr ?hp (fun _ hk => hk) trivial (Below.refl _ _) (Nat.le_refl _) (by simp) ?_; (case hd => rfl); (case hg => rfl); (case hr => first | (go_simp; done) | (go_simp; rfl)); (case hp => exact (Reps.none _ _)); intro vL wL hoL hbL hg_ hnew_; clear hg_ hnew_; have BL := Aside0.mk hbL; have OL := Aside0.mk hoL; have DL := Aside0.mk (D5.out.below hbL); have CL := Aside0.mk (Kd.C_below CB.out hbL); have hcL := blk_below HC5.out hbL; have hl2 : wL.cell? ⟨g, 2, none⟩ = some (.slice Aa r.all.length ca) := (blk_cell hcL 2).trans rfl; have hlf2 := blk_frozen hcL 2; have hl3 : wL.cell? ⟨g, 3, none⟩ = some (.bool r.renew) := (blk_cell hcL 3).trans rfl; have hlf3 := blk_frozen hcL 3; clear hcL hbL hoL) | ((with_reducible refine gate_builtin (b := .append) (xs := #[.tmp 31, .tmp 32]) rfl ?_); at_builtin; refine Kd.R_append_rows (Kd.int .u8) (w0 := w5) w5.heap.size rfl (.tmp 31) (.tmp 32) 22 5 (.int .u8 0) 1 rfl Try.underlying22 info5 rfl (by decide) (by omega) (vL) ([]) (b) _ _ _ (fun _ => True) (fun _ => False) rfl rfl ?aO ?aR (fun _ _ h => h) (fun _ h => h.elim) ?aF ?aB ?aS ?aL ?_; (case aR => exact CL.out); (case aB => exact BL.out); (case aF => exact (fun _ _ => trivial)); (case aO => exact OL.out); (case aS => exact (BL.out).size); (case aL => (have := HBl.out; simp only [List.length_nil]; omega)); intro v2 w2 ho hb hg hat; clear hg hat; rw [List.nil_append] at ho; obtain ⟨A2, c2, e2_⟩ := Kd.R_slice ho; subst e2_; have B2 := Aside0.mk hb; have O2 := Aside0.mk ho; have hc2 := blk_below HC5.out hb; have hm2 : w2.cell? ⟨g, 2, none⟩ = some (.slice Aa r.all.length ca) := (blk_cell hc2 2).trans rfl; have hmf2 := blk_frozen hc2 2; have hm3 : w2.cell? ⟨g, 3, none⟩ = some (.bool r.renew) := (blk_cell hc2 3).trans rfl; have hmf3 := blk_frozen hc2 3; clear hc2 hb ho))
    go_ret
    exact ⟨rfl, ((D5.out.newAll O2.out B2.out).setRenew true).mono (fun k hk => hk.imp id (fun q => Nat.le_trans S5.out q)), kept_set (kept_set (K5.out.then_ (new_kept P B2.out) (fun k hk => .inl hk)) PG.out 2 _) PG.out 3 _, below0_set (below0_set (Below.trans B5.out (below0 B2.out)) _ _) _ _⟩
theorem kept_setCells (b : Nat) : ∀ (vs : List Value) (o : Nat) (w : World), Kept w (w.setCells b o vs) (fun k => k = b) := by
  intro vs
  induction vs with
  | nil => intro o w; exact Kept.refl w _
  | cons v vs ih => intro o w; exact ((Kept.refl w (fun k => k = b)).setCell (p := ⟨b, o, none⟩) (.inl rfl) v).then_ (ih (o + 1) _) (fun k hk => .inl hk)
theorem below0_setCells (b : Nat) : ∀ (vs : List Value) (o : Nat) (w : World), Below 0 w (w.setCells b o vs) := by
  intro vs
  induction vs with
  | nil => intro o w; exact Below.refl 0 w
  | cons v vs ih => intro o w; exact Below.trans (below0_set (Below.refl 0 w) ⟨b, o, none⟩ v) (ih (o + 1) _)
theorem below_of0 {w w1 w' : World} (h : Below w.heap.size w w1) (h0 : Below 0 w1 w') {b : Nat} (hk : Kept w1 w' (fun k => k = b)) (hb : w.heap.size ≤ b) : Below w.heap.size w w' :=
  below_kept h h0 hk (fun k hk => by rw [hk]; exact hb)
set_option maxHeartbeats 4000000 in
set_option maxRecDepth 100000 in
theorem d_Read_down {P : Nat → Prop} {w : World} {g : Nat} {d : DS} (h : IsD P w g d) (hd : d.down = true) :
    Calls Try.prog 18 #[.pointer (some ⟨g, 0, none⟩)] w fun x w' => x = .returned (.tuple #[.slice none 0 0, .int .i64 60]) ∧ IsD P w' g d ∧ Below w.heap.size w w' := by
  have HB_ := Aside0.mk (Below.refl w.heap.size w)
  have D0 := Aside0.mk h
  have HB := Aside0.mk (below0 (Below.refl w.heap.size w)); have HK := Aside0.mk (Kept.refl w P)
  obtain ⟨vs, va, hcells, hP, hS, hA⟩ := h
  obtain ⟨As, cs, rfl⟩ := Kd.R_slice hS
  obtain ⟨Aa, ca, rfl⟩ := Kd.R_slice hA
  have PG := Aside0.mk hP; have HS := Aside0.mk hS; have HA := Aside0.mk hA; have HC := Aside0.mk hcells
  have hc4 : w.cell? ⟨g, 4, none⟩ = some (.bool d.down) := (blk_cell hcells 4).trans rfl; have hcf4 := blk_frozen hcells 4
  clear hcells hP hS hA

  rw [hd] at hc4
  clear hd
  go_enter Try.func18, Try.ntmps18
  go_wp2
  go_ret2
  exact ⟨rfl, D0.out, HB_.out⟩
theorem IsD.bound {P : Nat → Prop} {w : World} {g : Nat} {d : DS} (h : IsD P w g d) : IsD (fun k => P k ∧ k < w.heap.size) w g d := by
  obtain ⟨vs, va, h1, h2, h3, h4⟩ := h
  exact ⟨vs, va, h1, ⟨h2, blk_lt h1⟩, Kd.R_mono (Kd.R_bound h3) (fun k hk => ⟨⟨hk.1.1, hk.2.2.1⟩, hk.1.2⟩), Kd.R_mono (Kd.R_bound h4) (fun k hk => ⟨⟨hk.1.1, hk.2.2.1⟩, hk.1.2⟩)⟩
theorem at_someD {w : World} {A : Option Addr} {n : Nat} {xs : List Int} (h : (Kd.int .u8).C w A n xs) (h0 : 0 < n) : ∃ ad, A = some ad := by
  obtain ⟨h1, _, h3⟩ := h
  obtain ⟨ad, e, _⟩ := h3 (by omega)
  exact ⟨ad, e⟩
theorem copy_src {w : World} {ad : Addr} {n : Nat} {xs : List Int} (h : (Kd.int .u8).C w (some ad) n xs) : ∀ j v, (xs.map (Value.int .u8))[j]? = some v → w.cell? (ad.add j) = some v := by
  intro j v hv
  rw [List.getElem?_map] at hv
  obtain ⟨x, hx, rfl⟩ := Option.map_eq_some_iff.mp hv
  obtain ⟨hj, hx2⟩ := List.getElem?_eq_some_iff.mp hx
  have hn := h.1
  obtain ⟨ad2, e, hc⟩ := Kd.at_int h (j : Int) (by omega) (by omega)
  injection e with e
  subst e
  rw [Int.toNat_natCast] at hc
  rw [hc, ← hx2]
  simp [rd, hj]
theorem copy_dst {w : World} {b base n c : Nat} {ok : Nat → Prop} {xs : List Int} {m : Nat} (h : Kd.R (Kd.int .u8) 5 w base ok (.slice (some ⟨b, 0, none⟩) n c) xs) (hm : m = n) : (∀ j, j < m → (w.cell? ⟨b, 0 + j, none⟩).isSome = true) ∧ (∀ j, j < m → w.frozen? ⟨b, 0 + j, none⟩ = false) := by
  subst hm
  refine ⟨fun j hj => ?_, fun j hj => ?_⟩
  · have := (Kd.R_celln 0 h (j : Int) (by omega) (by omega)).1
    rw [Int.toNat_natCast] at this
    rw [Nat.zero_add, this]; rfl
  · have := (Kd.R_celln 0 h (j : Int) (by omega) (by omega)).2
    rw [Int.toNat_natCast] at this
    rw [Nat.zero_add]; exact this
theorem copy_row {w1 : World} {gb c1 ca base : Nat} {ad : Addr} {ok : Nat → Prop} {xs ys : List Int} (hsz1 : (Try.prog.info? 5).map (·.size) = some 1) (hC : (Kd.int .u8).C w1 (some ad) xs.length xs) (hR : Kd.R (Kd.int .u8) 5 w1 base ok (.slice (some ⟨gb, 0, none⟩) xs.length c1) ys) :
    (Builtin.copy_ #[22, 22] 3 #[.slice (some ⟨gb, 0, none⟩) xs.length c1, .slice (some ad) xs.length ca]).run Try.prog w1 = .ok (goInt xs.length) (w1.setCells gb 0 (xs.map (Value.int .u8))) := by
  have h := run_copy_cells (P := Try.prog) w1 22 22 3 5 gb 0 xs.length c1 ad xs.length ca (xs.map (Value.int .u8)) Try.underlying22 hsz1 (by rw [List.length_map]; exact (Nat.min_self _).symm) (copy_src hC) (copy_dst hR (List.length_map _)).1 (copy_dst hR (List.length_map _)).2 (by intro v hv; obtain ⟨x, _, rfl⟩ := List.mem_map.mp hv; rfl)
  rwa [List.length_map] at h
set_option maxHeartbeats 4000000 in
set_option maxRecDepth 100000 in
theorem d_Read {P : Nat → Prop} {w : World} {g : Nat} {d : DS} (h : IsD P w g d) (ho : d.Ok) (hd : d.down = false) :
    Calls Try.prog 18 #[.pointer (some ⟨g, 0, none⟩)] w fun x w' => ∃ v, x = .returned (.tuple #[v, .int .i64 0]) ∧ Kd.R (Kd.int .u8) 5 w' w.heap.size (fun _ => True) v d.all ∧ IsD P w' g d ∧ Below w.heap.size w w' := by
  have HB_ := Aside0.mk (Below.refl w.heap.size w)
  have HAl := Aside0.mk (show d.all.length ≤ 4194304 by have := ho.room1; have := ho.all_; omega)
  have D0 := Aside0.mk h
  have HB := Aside0.mk (below0 (Below.refl w.heap.size w)); have HK := Aside0.mk (Kept.refl w P)
  obtain ⟨vs, va, hcells, hP, hS, hA⟩ := h
  obtain ⟨As, cs, rfl⟩ := Kd.R_slice hS
  obtain ⟨Aa, ca, rfl⟩ := Kd.R_slice hA
  have PG := Aside0.mk hP; have HS := Aside0.mk hS; have HA := Aside0.mk hA; have HC := Aside0.mk hcells
  have hc2 : w.cell? ⟨g, 2, none⟩ = some (.slice Aa d.all.length ca) := (blk_cell hcells 2).trans rfl; have hcf2 := blk_frozen hcells 2; have hc4 : w.cell? ⟨g, 4, none⟩ = some (.bool d.down) := (blk_cell hcells 4).trans rfl; have hcf4 := blk_frozen hcells 4
  clear hcells hP hS hA

  rw [hd] at hc4
  clear hd ho
  by_cases hz : d.all.length = 0
  · obtain ⟨i0, hi0, _, hsz0, _⟩ := info_parts info5
    have hsz1 : (Try.prog.info? 5).map (·.size) = some 1 := by rw [hi0]; exact congrArg some hsz0
    have HZ := Aside0.mk hz
    clear hz
    go_enter Try.func18, Try.ntmps18
    go_wp2_with (first | ((with_reducible refine gate_dst (N := 14) rfl ?_); refine Kd.R_make (Kd.int .u8) (w0 := w) w.heap.size 5 rfl (N := 14) rfl 22 (.tmp 13) (.tmp 13) rfl (d.all.length : Int) rfl rfl Try.underlying22 (.int .u8 0) 1 info5 rfl (by decide) (by omega) 0 (ok := fun _ => True) (okp := fun _ => True) ?hz (fun _ hk => hk) trivial (by omega) ?hl (Below.refl _ _) (Nat.le_refl _) ?_; (case hz => exact rfl); (case hl => have := HAl.out; rw [Int.toNat_natCast]; omega); intro v1 w1 hoM hbM hg_ hnew_; clear hg_ hnew_; have B1 := Aside0.mk hbM; have D1 := Aside0.mk (D0.out.below hbM); have O1 := Aside0.mk hoM; obtain ⟨A1, c1, e1_⟩ := Kd.R_slice hoM; subst e1_; have hc1 := blk_below HC.out hbM; have hm2 : w1.cell? ⟨g, 2, none⟩ = some (.slice Aa d.all.length ca) := (blk_cell hc1 2).trans rfl; have hmf2 := blk_frozen hc1 2; have hcopy := run_copy_none (P := Try.prog) w1 22 22 3 5 A1 Aa d.all.length c1 d.all.length ca Try.underlying22 hsz1 (by rw [HZ.out]; exact Nat.zero_min _); clear hc1 hoM hbM))
    go_ret2
    have O2 := O1.out
    rw [show List.replicate ((d.all.length : Int)).toNat (0 : Int) = d.all by rw [List.eq_nil_of_length_eq_zero HZ.out]; rfl] at O2
    exact ⟨_, rfl, O2, D1.out, B1.out⟩
  · obtain ⟨i0, hi0, _, hsz0, _⟩ := info_parts info5
    have hsz1 : (Try.prog.info? 5).map (·.size) = some 1 := by rw [hi0]; exact congrArg some hsz0
    have CA := Aside0.mk (Kd.R_reads' HA.out).2.2
    obtain ⟨ad, hAd⟩ := at_someD CA.out (by omega)
    subst hAd
    have HZ := Aside0.mk hz
    clear hz
    go_enter Try.func18, Try.ntmps18
    go_wp2_with (first | ((with_reducible refine gate_dst (N := 14) rfl ?_); refine Kd.R_make (Kd.int .u8) (w0 := w) w.heap.size 5 rfl (N := 14) rfl 22 (.tmp 13) (.tmp 13) rfl (d.all.length : Int) rfl rfl Try.underlying22 (.int .u8 0) 1 info5 rfl (by decide) (by omega) 0 (ok := fun _ => True) (okp := fun _ => True) ?hz (fun _ hk => hk) trivial (by omega) ?hl (Below.refl _ _) (Nat.le_refl _) ?_; (case hz => exact rfl); (case hl => have := HAl.out; rw [Int.toNat_natCast]; omega); intro v1 w1 hoM hbM hg_ hnew_; clear hg_ hnew_; have B1 := Aside0.mk hbM; have D1 := Aside0.mk (D0.out.bound.below hbM); have e_ : (List.replicate ((d.all.length : Int)).toNat (0 : Int)).length = d.all.length := (by rw [List.length_replicate, Int.toNat_natCast]); obtain ⟨gb, c1, e1_, hgb, hgl, -⟩ := Kd.R_form hoM (by rw [e_]; have := HZ.out; omega); subst e1_; have O1 := Aside0.mk hoM; have hoM2 := hoM; rw [e_] at hoM2; have GB := Aside0.mk hgb; have hc1 := blk_below HC.out hbM; have hm2 : w1.cell? ⟨g, 2, none⟩ = some (.slice (some ad) d.all.length ca) := (blk_cell hc1 2).trans rfl; have hmf2 := blk_frozen hc1 2; have hcopy := copy_row (c1 := c1) (ca := ca) hsz1 (Kd.C_below CA.out hbM) hoM2; clear hc1 hoM hoM2 hbM hgb hgl e_))
    go_ret2
    have O2 := R_setCells d.all 0 w1 _ O1.out (by rw [List.length_replicate, Int.toNat_natCast]; omega)
    rw [show (List.replicate ((d.all.length : Int)).toNat (0 : Int)).take 0 ++ d.all ++ (List.replicate ((d.all.length : Int)).toNat (0 : Int)).drop (0 + d.all.length) = d.all by rw [List.drop_eq_nil_of_le (by rw [List.length_replicate, Int.toNat_natCast]; omega), List.take_zero, List.nil_append, List.append_nil], List.length_replicate, Int.toNat_natCast] at O2
    exact ⟨_, rfl, O2, (D1.out.kept (kept_setCells gb _ 0 w1) (fun k hk e => absurd hk.2 (by have := GB.out; omega))).mono (fun k hk => hk.1), below_of0 B1.out (below0_setCells gb _ 0 w1) (kept_setCells gb _ 0 w1) GB.out⟩
end Go.Proofs.Ythpdmjpimeibnaa.M
