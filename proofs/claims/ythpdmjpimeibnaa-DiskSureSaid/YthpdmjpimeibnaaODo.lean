/-
  contralaw06.do with the document's empty disk: what an operation does to a disk.
-/
import Derived.Test.YthpdmjpimeibnaaORef06
import Derived.Test.YthpdmjpimeibnaaMx2
import Derived.Test.YthpdmjpimeibnaaMx3
namespace Go.Proofs.Ythpdmjpimeibnaa.M
open Go.RowKit Go.Proofs.YthpdmjpimeibnaaW.PrintWords Go.Proofs.YthpdmjpimeibnaaW.PrintLast Go.Proofs.YthpdmjpimeibnaaW.PrintMore
set_option linter.unusedVariables false
set_option linter.unusedSimpArgs false
theorem d_SyncZ {P : Nat → Prop} {w : World} {g : Nat} {d : DS} (h : IsD P w g d) (ho : d.Ok) :
    Calls Try.prog 15 #[.pointer (some ⟨g, 0, none⟩)] w fun x w' => x = .returned (.int .i64 d.sync.2) ∧ IsD (fun k => P k ∨ w.heap.size ≤ k) w' g d.sync.1 ∧ Kept w w' P ∧ Below 0 w w' := by
  unfold DS.sync
  by_cases hd : d.down = true
  · rw [if_pos hd]
    exact (d_Sync_down h hd).mono fun x w' ⟨h1, h2, h3, h4⟩ => ⟨h1, h2.mono (fun k hk => .inl hk), h3, h4⟩
  · rw [if_neg hd]
    exact (d_Sync h ho (by simpa using hd)).mono fun x w' ⟨h1, h2, h3, h4⟩ => ⟨h1, h2, h3, h4⟩
theorem blk_kp {w w' : World} {P : Nat → Prop} {k : Nat} {o : Obj} (h : w.heap[k]? = some o) (hk : Kept w w' P) (hn : ¬ P k) : w'.heap[k]? = some o := (hk.2 k (blk_lt h) hn).trans h
theorem ref06_Write0 (s : ByteArray) : ∃ r1 r2 r3 r4 r5 r6 r7, contraref06_Write.f 0 ⟨#[]⟩ ⟨#[]⟩ false false 0 s = some (r1, r2, r3, r4, r5, r6, r7) := by
  by_cases h : s.size = 0
  · have e : s = ⟨#[]⟩ := by
      cases s with
      | mk d => have h2 : d.size = 0 := h; rw [Array.size_eq_zero_iff.mp h2]
    subst e
    exact ⟨0, ⟨#[]⟩, ⟨#[]⟩, false, false, 0, 0, by kernel_rfl⟩
  · refine ⟨0, ⟨#[]⟩, ⟨#[]⟩, false, false, 0, 3, ?_⟩
    unfold contraref06_Write.f contraref06_All.f
    simp only [Bool.false_eq_true, if_false, Option.bind_some]
    rw [if_pos (by decide)]
    simp only [Option.bind_some]
    have e : wrap64 (0 - (((⟨#[]⟩ : ByteArray) ++ ⟨#[]⟩).size : Int)) = 0 := by decide +kernel
    rw [e, if_pos (by omega)]
theorem ref06_Crash0 (n turn : Int) : ∃ k r1 r2 r3 r4 r5 r6, contraref06_Crash.f k 0 ⟨#[]⟩ ⟨#[]⟩ false false 0 n turn = some (r1, r2, r3, r4, r5, r6) := by
  have h0 : (((⟨#[]⟩ : ByteArray).size : Nat) : Int) = 0 := rfl
  refine ⟨4, ?_⟩
  unfold contraref06_Crash.f
  rw [if_neg (by decide)]
  by_cases h : n < 0
  · rw [if_pos h]
    simp only [contraref06_Crash.j0, h0]
    simp
  · rw [if_neg h]
    by_cases h2 : n > 0
    · simp only [contraref06_Crash.j0, h0]
      rw [if_pos h2]
      simp
    · have e : n = 0 := by omega
      subst e
      simp only [contraref06_Crash.j0, h0]
      simp
/-- what an operation does to a disk -/
def DS.doing (d : DS) (kind n : Int) (x : List Int) (turn : Int) : DS :=
  if kind = 0 then (d.write x).1 else if kind = 2 then d.sync.1 else if kind = 3 then { d with fuse := mx n (-1) } else if kind = 4 then d.crash n turn else if kind = 5 then d.up else d
set_option maxHeartbeats 8000000 in
set_option maxRecDepth 100000 in
theorem do_zero {N : Nat} {w : World} {g : Nat} {d : DS} {A : Option Addr} {c : Nat} {kind n turn : Int} {x : List Int} (h : IsD (fun k => N ≤ k) w g d) (ho : d.Ok) (hs : d.renew = false → d.sure.length ≤ d.all.length) (hN : N ≤ w.heap.size)
    (hxP : ∀ W, Kept w W (fun k => N ≤ k) → Kd.C (Kd.int .u8) W A x.length x) (hc : x.length ≤ c) (hl : x.length ≤ 1000) (hk : kind ≠ 1) (ht : 0 ≤ turn ∧ turn < 256) :
    Calls Try.prog 23 #[.pointer (some ⟨g, 0, none⟩), zd, .agg #[.int .i64 kind, .int .i64 n, .slice A x.length c, .int .u8 turn]] w fun e w' => (∃ v, e = .returned v) ∧ IsD (fun k => N ≤ k) w' g (d.doing kind n x turn) ∧ Below N w w' := by
  have D0 := Aside0.mk h.bound; have HO := Aside0.mk ho; have HS := Aside0.mk hs; have HN := Aside0.mk hN; have HXP := Aside0.mk hxP; have HC := Aside0.mk hc; have HL := Aside0.mk hl; have HT := Aside0.mk ht
  have FIN := Aside0.mk (show ∀ w' (d' : DS) (P' : Nat → Prop), Below 0 w w' → Kept w w' (fun k => N ≤ k) → IsD P' w' g d' → (∀ k, P' k → N ≤ k) → IsD (fun k => N ≤ k) w' g d' ∧ Below N w w' from fun w' d' P' hb hk hd hp => ⟨hd.mono hp, kept_belowN hb hk (fun k q => q) hN⟩)
  have t1 : (kind == 1) = false := beq_eq_false_iff_ne.mpr hk
  clear h ho hs hN hxP hc hl ht hk
  by_cases h0 : kind = 0
  · have t0 : (kind == 0) = true := beq_iff_eq.mpr h0
    have HDO := Aside0.mk (show d.doing kind n x turn = (d.write x).1 by unfold DS.doing; rw [if_pos h0])
    obtain ⟨r1, r2, r3, r4, r5, r6, r7, hw0⟩ := ref06_Write0 (strOfNums x)
    have HW0 := Aside0.mk hw0
    clear h0 hw0
    go_enter Try.func23, Try.ntmps23
    go_wp2_with (first | ((with_reducible refine gate_dst (N := 4) rfl ?_); refine box_event ?hg (N := 4) ?hd (cs := #[.int .i64 0, .string (⟨#[]⟩ : ByteArray), .string (⟨#[]⟩ : ByteArray), .bool false, .bool false, .int .i64 0]) (t := 41) ?hr ?_; (case hd => rfl); (case hg => rfl); (case hr => first | (go_simp; done) | (go_simp; rfl)); intro ga hg w1 hbox hb; have Z1 := Aside0.mk (below0 hb); have K1 := Aside0.mk (Kept.of_below hb (fun k => N ≤ k)); have D1 := Aside0.mk (D0.out.below hb); have A1 := Aside0.mk hbox; have GA := Aside0.mk hg; clear hb hg hbox) | ((with_reducible refine gate_dst (N := 5) rfl ?_); refine box_event ?hg (N := 5) ?hd (cs := #[.int .i64 kind, .int .i64 n, .slice A x.length c, .int .u8 turn]) (t := 38) ?hr ?_; (case hd => rfl); (case hg => rfl); (case hr => first | (go_simp; done) | (go_simp; rfl)); intro go hg w2 hbox hb; have Z2 := Aside0.mk (Z1.out.trans (below0 hb)); have K2 := Aside0.mk (K1.out.then_ (Kept.of_below hb (fun _ => False)) (fun _ q => q.elim)); have D2 := Aside0.mk (D1.out.below hb); have A2 := Aside0.mk (blk_below A1.out hb); have O2 := Aside0.mk hbox; have GO := Aside0.mk (show w.heap.size ≤ go ∧ ga ≠ go from ⟨by rw [hg]; exact Z1.out.size, by rw [hg]; exact Nat.ne_of_lt (blk_lt A1.out)⟩); clear hb hg hbox) | ((with_reducible refine gate_dst (N := 6) rfl ?_); refine box_event ?hg (N := 6) ?hd (cs := #[.int .i64 0, .string (⟨#[]⟩ : ByteArray), .string (⟨#[]⟩ : ByteArray), .bool false, .bool false, .int .i64 0]) (t := 41) ?hr ?_; (case hd => rfl); (case hg => rfl); (case hr => first | (go_simp; done) | (go_simp; rfl)); intro gb hg w3 hbox hb; have Z3 := Aside0.mk (Z2.out.trans (below0 hb)); have K3 := Aside0.mk (K2.out.then_ (Kept.of_below hb (fun _ => False)) (fun _ q => q.elim)); have D3 := Aside0.mk (D2.out.below hb); have A3 := Aside0.mk (blk_below A2.out hb); have O3 := Aside0.mk (blk_below O2.out hb); have C3 := Aside0.mk hbox; have GB := Aside0.mk (show w.heap.size ≤ gb ∧ ga ≠ gb ∧ go ≠ gb from ⟨by rw [hg]; exact Z2.out.size, by rw [hg]; exact Nat.ne_of_lt (blk_lt A2.out), by rw [hg]; exact Nat.ne_of_lt (blk_lt O2.out)⟩); have ac0 : w3.cell? ⟨ga, 0, none⟩ = some (.int .i64 0) := (blk_cell A3.out 0).trans rfl; have af0 := blk_frozen A3.out 0; have ac1 : w3.cell? ⟨ga, 1, none⟩ = some (.string (⟨#[]⟩ : ByteArray)) := (blk_cell A3.out 1).trans rfl; have af1 := blk_frozen A3.out 1; have ac2 : w3.cell? ⟨ga, 2, none⟩ = some (.string (⟨#[]⟩ : ByteArray)) := (blk_cell A3.out 2).trans rfl; have af2 := blk_frozen A3.out 2; have ac3 : w3.cell? ⟨ga, 3, none⟩ = some (.bool false) := (blk_cell A3.out 3).trans rfl; have af3 := blk_frozen A3.out 3; have ac4 : w3.cell? ⟨ga, 4, none⟩ = some (.bool false) := (blk_cell A3.out 4).trans rfl; have af4 := blk_frozen A3.out 4; have ac5 : w3.cell? ⟨ga, 5, none⟩ = some (.int .i64 0) := (blk_cell A3.out 5).trans rfl; have af5 := blk_frozen A3.out 5; have oc0 : w3.cell? ⟨go, 0, none⟩ = some (.int .i64 kind) := (blk_cell O3.out 0).trans rfl; have of0 := blk_frozen O3.out 0; have oc1 : w3.cell? ⟨go, 1, none⟩ = some (.int .i64 n) := (blk_cell O3.out 1).trans rfl; have of1 := blk_frozen O3.out 1; have oc2 : w3.cell? ⟨go, 2, none⟩ = some (.slice A x.length c) := (blk_cell O3.out 2).trans rfl; have of2 := blk_frozen O3.out 2; have oc3 : w3.cell? ⟨go, 3, none⟩ = some (.int .u8 turn) := (blk_cell O3.out 3).trans rfl; have of3 := blk_frozen O3.out 3; have hcv := Kd.C_string (P := Try.prog) (c := c) Try.underlying22 Try.underlying5 Try.underlying9 (HXP.out w3 K3.out); clear hb hg hbox))
    clear hcv ac0 af0 ac1 af1 ac2 af2 ac3 af3 ac4 af4 ac5 af5 oc0 of0 oc1 of1 oc2 of2 oc3 of3
    refine (contraref06_Write.calls 0 ⟨#[]⟩ ⟨#[]⟩ false false 0 (strOfNums x) r1 r2 r3 r4 r5 r6 r7 w3 HW0.out).mono ?_; rintro e w4 ⟨rfl, hb⟩
    have Z4 := Aside0.mk (Z3.out.trans (below0 hb))
    have K4 := Aside0.mk (K3.out.then_ (Kept.of_below hb (fun _ => False)) (fun _ q => q.elim))
    have D4 := Aside0.mk (D3.out.below hb)
    have A4 := Aside0.mk (blk_below A3.out hb)
    have O4 := Aside0.mk (blk_below O3.out hb)
    have C4 := Aside0.mk (blk_below C3.out hb)
    clear hb
    go_wp2_with (first | ((with_reducible refine gate_dst (N := 8) rfl ?_); refine box_event ?hg (N := 8) ?hd (cs := #[.int .i64 0, .string (⟨#[]⟩ : ByteArray), .string (⟨#[]⟩ : ByteArray), .bool false, .bool false, .int .i64 0]) (t := 41) ?hr ?_; (case hd => rfl); (case hg => rfl); (case hr => first | (go_simp; done) | (go_simp; rfl)); intro gl hg w5 hbox hb; have Z5 := Aside0.mk (Z4.out.trans (below0 hb)); have K5 := Aside0.mk (K4.out.then_ (Kept.of_below hb (fun _ => False)) (fun _ q => q.elim)); have D5 := Aside0.mk (D4.out.below hb); have A5 := Aside0.mk (blk_below A4.out hb); have O5 := Aside0.mk (blk_below O4.out hb); have C5 := Aside0.mk (blk_below C4.out hb); have L5 := Aside0.mk hbox; have GL := Aside0.mk (show w.heap.size ≤ gl ∧ gl ≠ go ∧ gl ≠ gb from ⟨by rw [hg]; exact Z4.out.size, by rw [hg]; exact Nat.ne_of_gt (blk_lt O4.out), by rw [hg]; exact Nat.ne_of_gt (blk_lt C4.out)⟩); have lc0 : w5.cell? ⟨gl, 0, none⟩ = some (.int .i64 0) := (blk_cell L5.out 0).trans rfl; have lf0 := blk_frozen L5.out 0; have lc1 : w5.cell? ⟨gl, 1, none⟩ = some (.string (⟨#[]⟩ : ByteArray)) := (blk_cell L5.out 1).trans rfl; have lf1 := blk_frozen L5.out 1; have lc2 : w5.cell? ⟨gl, 2, none⟩ = some (.string (⟨#[]⟩ : ByteArray)) := (blk_cell L5.out 2).trans rfl; have lf2 := blk_frozen L5.out 2; have lc3 : w5.cell? ⟨gl, 3, none⟩ = some (.bool false) := (blk_cell L5.out 3).trans rfl; have lf3 := blk_frozen L5.out 3; have lc4 : w5.cell? ⟨gl, 4, none⟩ = some (.bool false) := (blk_cell L5.out 4).trans rfl; have lf4 := blk_frozen L5.out 4; have lc5 : w5.cell? ⟨gl, 5, none⟩ = some (.int .i64 0) := (blk_cell L5.out 5).trans rfl; have lf5 := blk_frozen L5.out 5; clear hb hg hbox))
    clear lc0 lf0 lc1 lf1 lc2 lf2 lc3 lf3 lc4 lf4 lc5 lf5
    have Z6 := Aside0.mk (set6_below (B := 0) Z5.out (Nat.zero_le _) (.int .i64 r1) (.string r2) (.string r3) (.bool r4) (.bool r5) (.int .i64 r6) (g := gl))
    have K6 := Aside0.mk (K5.out.then_ (set6_kept w5 gl (.int .i64 r1) (.string r2) (.string r3) (.bool r4) (.bool r5) (.int .i64 r6)) (fun k hk => .inl (by subst hk; exact Nat.le_trans HN.out GL.out.1)))
    
    have D6 := Aside0.mk (D5.out.kept (set6_kept w5 gl (.int .i64 r1) (.string r2) (.string r3) (.bool r4) (.bool r5) (.int .i64 r6)) (fun k hk e => by subst e; exact absurd hk.2 (Nat.not_lt.mpr GL.out.1)))
    have O6 := Aside0.mk (blk_kp O5.out (set6_kept w5 gl (.int .i64 r1) (.string r2) (.string r3) (.bool r4) (.bool r5) (.int .i64 r6)) (fun e => GL.out.2.1 e.symm))
    have C6 := Aside0.mk (blk_kp C5.out (set6_kept w5 gl (.int .i64 r1) (.string r2) (.string r3) (.bool r4) (.bool r5) (.int .i64 r6)) (fun e => GL.out.2.2 e.symm))
    have L6 := Aside0.mk (set6_blk L5.out (.int .i64 r1) (.string r2) (.string r3) (.bool r4) (.bool r5) (.int .i64 r6))
    unfold set6 at Z6 K6 D6 O6 C6 L6
    generalize (((((w5.setCell ⟨gl, 0, none⟩ (.int .i64 r1)).setCell ⟨gl, 1, none⟩ (.string r2)).setCell ⟨gl, 2, none⟩ (.string r3)).setCell ⟨gl, 3, none⟩ (.bool r4)).setCell ⟨gl, 4, none⟩ (.bool r5)).setCell ⟨gl, 5, none⟩ (.int .i64 r6) = w6 at Z6 K6 D6 O6 C6 L6 ⊢
    refine start_ (n := 9) (S := fun w' => w'.cell? ⟨gl, 0, none⟩ = some (.int .i64 r1) ∧ w'.cell? ⟨gl, 1, none⟩ = some (.string r2) ∧ w'.cell? ⟨gl, 2, none⟩ = some (.string r3) ∧ w'.cell? ⟨gl, 3, none⟩ = some (.bool r4) ∧ w'.cell? ⟨gl, 4, none⟩ = some (.bool r5) ∧ w'.cell? ⟨gl, 5, none⟩ = some (.int .i64 r6) ∧ w'.cell? ⟨go, 2, none⟩ = some (.slice A x.length c)) (ds := [7]) #[false, false, false, false, false, false, false, false, false] (by kernel_rfl) rfl rfl ⟨(blk_cell (blk_drew L6.out) 0).trans rfl, (blk_cell (blk_drew L6.out) 1).trans rfl, (blk_cell (blk_drew L6.out) 2).trans rfl, (blk_cell (blk_drew L6.out) 3).trans rfl, (blk_cell (blk_drew L6.out) 4).trans rfl, (blk_cell (blk_drew L6.out) 5).trans rfl, (blk_cell (blk_drew O6.out) 2).trans rfl⟩ (fun hHeld => ?_)
    refine pure_ (i := 1) (N := some 27) (v := ?_) (a' := ?_) #[false, true, false, false, false, false, false, false, false] rfl rfl (by kernel_rfl) (fun _ _ _ h => h) (Or.inl ⟨by rfl, ?_⟩) ?_ ?_
    rotate_left
    · intro w'
      go_simp
      with_reducible rfl
    rotate_left
    · simp only [Act.put, List.setIfInBounds_toArray, List.set_cons_zero, List.set_cons_succ, i64_w, i32_w]
      rfl
    refine pure_ (i := 2) (N := some 28) (v := ?_) (a' := ?_) #[false, true, true, false, false, false, false, false, false] rfl rfl (by kernel_rfl) (fun _ _ _ h => h) (Or.inl ⟨by rfl, ?_⟩) ?_ ?_
    rotate_left
    · intro w'
      go_simp
      with_reducible rfl
    rotate_left
    · simp only [Act.put, List.setIfInBounds_toArray, List.set_cons_zero, List.set_cons_succ, i64_w, i32_w]
      rfl
    refine pure_ (i := 5) (N := some 31) (v := ?_) (a' := ?_) #[false, true, true, false, false, true, false, false, false] rfl rfl (by kernel_rfl) (fun _ _ _ h => h) (Or.inl ⟨by rfl, ?_⟩) ?_ ?_
    rotate_left
    · intro w'
      go_simp
      with_reducible rfl
    rotate_left
    · simp only [Act.put, List.setIfInBounds_toArray, List.set_cons_zero, List.set_cons_succ, i64_w, i32_w]
      rfl
    refine take_ (i := 0) (N := some 26) (v := ?_) (a' := ?_) #[true, true, true, false, false, true, false, false, false] rfl rfl (by kernel_rfl) (fun _ _ _ h => h) (Or.inl ⟨by rfl, ?_⟩) hHeld ?_ ?_
    rotate_left
    · rintro w' ⟨s0, s1, s2, s3, s4, s5, s6⟩
      go_simp
      with_reducible rfl
    rotate_left
    · simp only [Act.put, List.setIfInBounds_toArray, List.set_cons_zero, List.set_cons_succ, i64_w, i32_w]
      rfl
    refine take_ (i := 3) (N := some 29) (v := ?_) (a' := ?_) #[true, true, true, true, false, true, false, false, false] rfl rfl (by kernel_rfl) (fun _ _ _ h => h) (Or.inl ⟨by rfl, ?_⟩) hHeld ?_ ?_
    rotate_left
    · rintro w' ⟨s0, s1, s2, s3, s4, s5, s6⟩
      go_simp
      with_reducible rfl
    rotate_left
    · simp only [Act.put, List.setIfInBounds_toArray, List.set_cons_zero, List.set_cons_succ, i64_w, i32_w]
      rfl
    refine one_ (i := 4) (N := some 30) #[true, true, true, true, true, true, false, false, false] rfl rfl (by kernel_rfl) (by decide) (fun K hK => ?_)
    refine goes_ Try.func14 (by kernel_rfl) rfl #[.pointer (some ⟨g, 0, none⟩), .slice A x.length c] (by rfl) rfl rfl (by simp only [List.map_toArray, List.map_cons, List.map_nil]; rfl) ?_
    with_reducible refine (d_Write (P := fun k => N ≤ k ∧ k < w.heap.size) (w := w6.drew) (D6.out.below (below_drew (Below.refl _ _))) HO.out (HXP.out _ (K6.out.then_ (Kept.of_below (below_drew (Below.refl _ _)) (fun _ => False)) (fun _ q => q.elim))) HC.out (by have := HL.out; omega) (fun W hW => HXP.out _ ((K6.out.then_ (Kept.of_below (below_drew (Below.refl _ _)) (fun _ => False)) (fun _ q => q.elim)).then_ hW (fun k hk => .inl hk.1)))).mono ?_
    rintro e w7 ⟨rfl, hD, hK, hB⟩
    refine ⟨_, rfl, ?_⟩
    have Z7 := Aside0.mk (Z6.out.trans ((below0 (below_drew (Below.refl w6.heap.size w6))).trans hB))
    have K7 := Aside0.mk (K6.out.then_ (show Kept w6 w7 _ from hK) (fun k hk => .inl hk.1))
    have D7 := Aside0.mk (show IsD (fun k => (N ≤ k ∧ k < w.heap.size) ∨ w6.heap.size ≤ k) w7 g _ from hD)
    have O7 := Aside0.mk (blk_kp (blk_drew O6.out) hK (fun q => absurd q.2 (Nat.not_lt.mpr GO.out.1)))
    have L7 := Aside0.mk (blk_kp (blk_drew L6.out) hK (fun q => absurd q.2 (Nat.not_lt.mpr GL.out.1)))
    have C7 := Aside0.mk (blk_kp (blk_drew C6.out) hK (fun q => absurd q.2 (Nat.not_lt.mpr GB.out.1)))
    have sc0 : w7.cell? ⟨gb, 0, none⟩ = some (.int .i64 0) := (blk_cell C7.out 0).trans rfl
    have sf0 := blk_frozen C7.out 0
    have sc1 : w7.cell? ⟨gb, 1, none⟩ = some (.string (⟨#[]⟩ : ByteArray)) := (blk_cell C7.out 1).trans rfl
    have sf1 := blk_frozen C7.out 1
    have sc2 : w7.cell? ⟨gb, 2, none⟩ = some (.string (⟨#[]⟩ : ByteArray)) := (blk_cell C7.out 2).trans rfl
    have sf2 := blk_frozen C7.out 2
    have sc3 : w7.cell? ⟨gb, 3, none⟩ = some (.bool false) := (blk_cell C7.out 3).trans rfl
    have sf3 := blk_frozen C7.out 3
    have sc4 : w7.cell? ⟨gb, 4, none⟩ = some (.bool false) := (blk_cell C7.out 4).trans rfl
    have sf4 := blk_frozen C7.out 4
    have sc5 : w7.cell? ⟨gb, 5, none⟩ = some (.int .i64 0) := (blk_cell C7.out 5).trans rfl
    have sf5 := blk_frozen C7.out 5
    clear hD hK hB
    refine hK.out _ _ ⟨(blk_cell L7.out 0).trans rfl, (blk_cell L7.out 1).trans rfl, (blk_cell L7.out 2).trans rfl, (blk_cell L7.out 3).trans rfl, (blk_cell L7.out 4).trans rfl, (blk_cell L7.out 5).trans rfl, (blk_cell O7.out 2).trans rfl⟩ (fun hHeld => ?_)
    clear hK K
    refine norm_ (a' := ?_) ?_ ?_
    rotate_left
    · show Act.put _ (some 30) _ = _
      simp only [Act.put, List.setIfInBounds_toArray, List.set_cons_zero, List.set_cons_succ, i64_w, i32_w]
      rfl
    refine pure_ (i := 6) (N := some 32) (v := ?_) (a' := ?_) #[true, true, true, true, true, true, true, false, false] rfl rfl (by kernel_rfl) (fun _ _ _ h => h) (Or.inl ⟨by rfl, ?_⟩) ?_ ?_
    rotate_left
    · intro w'
      go_simp
      with_reducible rfl
    rotate_left
    · simp only [Act.put, List.setIfInBounds_toArray, List.set_cons_zero, List.set_cons_succ, i64_w, i32_w]
      rfl
    refine last_ (i := 7) (N := none) #[true, true, true, true, true, true, true, true, false] rfl rfl (by kernel_rfl) (by decide) (fun K hK => ?_)
    refine skip_ (w1 := ?_) (by rfl) rfl ?_ ?_
    rotate_left
    · go_simp
      rfl
    refine hK.out _ _ ?_
    clear hK K
    refine pure_ (i := 8) (N := some 7) (v := ?_) (a' := ?_) #[true, true, true, true, true, true, true, true, true] rfl rfl (by kernel_rfl) (fun _ _ _ h => h) (Or.inl ⟨by rfl, ?_⟩) ?_ ?_
    rotate_left
    · intro w'
      go_simp
      with_reducible rfl
    rotate_left
    · simp only [Act.put, List.setIfInBounds_toArray, List.set_cons_zero, List.set_cons_succ, i64_w, i32_w]
      rfl
    refine done_ (by kernel_rfl) ?_

    go_wp2
    refine bodyPost_ret (results_ct rfl _ _ gb 41 #[.int .i64 r1, .string r2, .string r3, .bool r4, .bool r5, .int .i64 r6] (0, 0) _ rfl (set6_blk C7.out (.int .i64 r1) (.string r2) (.string r3) (.bool r4) (.bool r5) (.int .i64 r6)) Try.underlying41 rfl (by kernel_rfl)) rfl ?_
    rw [HDO.out]
    have F := FIN.out _ _ _ (set6_below (B := 0) (g := gb) Z7.out (Nat.zero_le _) (.int .i64 r1) (.string r2) (.string r3) (.bool r4) (.bool r5) (.int .i64 r6)) (K7.out.then_ (set6_kept w7 gb (.int .i64 r1) (.string r2) (.string r3) (.bool r4) (.bool r5) (.int .i64 r6)) (fun k hk => .inl (by subst hk; exact Nat.le_trans HN.out GB.out.1))) (D7.out.kept (set6_kept w7 gb (.int .i64 r1) (.string r2) (.string r3) (.bool r4) (.bool r5) (.int .i64 r6)) (fun k hk e => by subst e; exact hk.elim (fun q => absurd q.2 (Nat.not_lt.mpr GB.out.1)) (fun q => absurd (blk_lt C6.out) (Nat.not_lt.mpr q)))) (fun k hk => hk.elim (fun q => q.1) (fun q => Nat.le_trans HN.out (Nat.le_trans Z6.out.size q)))
    exact ⟨⟨_, rfl⟩, F.1, F.2⟩
  have t0 : (kind == 0) = false := beq_eq_false_iff_ne.mpr h0
  by_cases h2 : kind = 2
  · have t2 : (kind == 2) = true := beq_iff_eq.mpr h2
    have HDO := Aside0.mk (show d.doing kind n x turn = d.sync.1 by unfold DS.doing; rw [if_neg h0, if_pos h2])
    clear h0 h2
    go_enter Try.func23, Try.ntmps23
    go_wp2_with (first | ((with_reducible refine gate_dst (N := 4) rfl ?_); refine box_event ?hg (N := 4) ?hd (cs := #[.int .i64 0, .string (⟨#[]⟩ : ByteArray), .string (⟨#[]⟩ : ByteArray), .bool false, .bool false, .int .i64 0]) (t := 41) ?hr ?_; (case hd => rfl); (case hg => rfl); (case hr => first | (go_simp; done) | (go_simp; rfl)); intro ga hg w1 hbox hb; have Z1 := Aside0.mk (below0 hb); have K1 := Aside0.mk (Kept.of_below hb (fun k => N ≤ k)); have D1 := Aside0.mk (D0.out.below hb); have A1 := Aside0.mk hbox; have GA := Aside0.mk hg; clear hb hg hbox) | ((with_reducible refine gate_dst (N := 5) rfl ?_); refine box_event ?hg (N := 5) ?hd (cs := #[.int .i64 kind, .int .i64 n, .slice A x.length c, .int .u8 turn]) (t := 38) ?hr ?_; (case hd => rfl); (case hg => rfl); (case hr => first | (go_simp; done) | (go_simp; rfl)); intro go hg w2 hbox hb; have Z2 := Aside0.mk (Z1.out.trans (below0 hb)); have K2 := Aside0.mk (K1.out.then_ (Kept.of_below hb (fun _ => False)) (fun _ q => q.elim)); have D2 := Aside0.mk (D1.out.below hb); have A2 := Aside0.mk (blk_below A1.out hb); have O2 := Aside0.mk hbox; have GO := Aside0.mk (show w.heap.size ≤ go ∧ ga ≠ go from ⟨by rw [hg]; exact Z1.out.size, by rw [hg]; exact Nat.ne_of_lt (blk_lt A1.out)⟩); clear hb hg hbox) | ((with_reducible refine gate_dst (N := 6) rfl ?_); refine box_event ?hg (N := 6) ?hd (cs := #[.int .i64 0, .string (⟨#[]⟩ : ByteArray), .string (⟨#[]⟩ : ByteArray), .bool false, .bool false, .int .i64 0]) (t := 41) ?hr ?_; (case hd => rfl); (case hg => rfl); (case hr => first | (go_simp; done) | (go_simp; rfl)); intro gb hg w3 hbox hb; have Z3 := Aside0.mk (Z2.out.trans (below0 hb)); have K3 := Aside0.mk (K2.out.then_ (Kept.of_below hb (fun _ => False)) (fun _ q => q.elim)); have D3 := Aside0.mk (D2.out.below hb); have A3 := Aside0.mk (blk_below A2.out hb); have O3 := Aside0.mk (blk_below O2.out hb); have C3 := Aside0.mk hbox; have GB := Aside0.mk (show w.heap.size ≤ gb ∧ ga ≠ gb ∧ go ≠ gb from ⟨by rw [hg]; exact Z2.out.size, by rw [hg]; exact Nat.ne_of_lt (blk_lt A2.out), by rw [hg]; exact Nat.ne_of_lt (blk_lt O2.out)⟩); have ac0 : w3.cell? ⟨ga, 0, none⟩ = some (.int .i64 0) := (blk_cell A3.out 0).trans rfl; have af0 := blk_frozen A3.out 0; have ac1 : w3.cell? ⟨ga, 1, none⟩ = some (.string (⟨#[]⟩ : ByteArray)) := (blk_cell A3.out 1).trans rfl; have af1 := blk_frozen A3.out 1; have ac2 : w3.cell? ⟨ga, 2, none⟩ = some (.string (⟨#[]⟩ : ByteArray)) := (blk_cell A3.out 2).trans rfl; have af2 := blk_frozen A3.out 2; have ac3 : w3.cell? ⟨ga, 3, none⟩ = some (.bool false) := (blk_cell A3.out 3).trans rfl; have af3 := blk_frozen A3.out 3; have ac4 : w3.cell? ⟨ga, 4, none⟩ = some (.bool false) := (blk_cell A3.out 4).trans rfl; have af4 := blk_frozen A3.out 4; have ac5 : w3.cell? ⟨ga, 5, none⟩ = some (.int .i64 0) := (blk_cell A3.out 5).trans rfl; have af5 := blk_frozen A3.out 5; have oc0 : w3.cell? ⟨go, 0, none⟩ = some (.int .i64 kind) := (blk_cell O3.out 0).trans rfl; have of0 := blk_frozen O3.out 0; have oc1 : w3.cell? ⟨go, 1, none⟩ = some (.int .i64 n) := (blk_cell O3.out 1).trans rfl; have of1 := blk_frozen O3.out 1; have oc2 : w3.cell? ⟨go, 2, none⟩ = some (.slice A x.length c) := (blk_cell O3.out 2).trans rfl; have of2 := blk_frozen O3.out 2; have oc3 : w3.cell? ⟨go, 3, none⟩ = some (.int .u8 turn) := (blk_cell O3.out 3).trans rfl; have of3 := blk_frozen O3.out 3; have hcv := Kd.C_string (P := Try.prog) (c := c) Try.underlying22 Try.underlying5 Try.underlying9 (HXP.out w3 K3.out); clear hb hg hbox))
    clear hcv ac0 af0 ac1 af1 ac2 af2 ac3 af3 ac4 af4 ac5 af5 oc0 of0 oc1 of1 oc2 of2 oc3 of3
    refine (ref06_Sync0 w3).mono ?_; rintro e w4 ⟨rfl, hb⟩
    have Z4 := Aside0.mk (Z3.out.trans (below0 hb))
    have K4 := Aside0.mk (K3.out.then_ (Kept.of_below hb (fun _ => False)) (fun _ q => q.elim))
    have D4 := Aside0.mk (D3.out.below hb)
    have A4 := Aside0.mk (blk_below A3.out hb)
    have O4 := Aside0.mk (blk_below O3.out hb)
    have C4 := Aside0.mk (blk_below C3.out hb)
    clear hb
    go_wp2_with (first | ((with_reducible refine gate_dst (N := 12) rfl ?_); refine box_event ?hg (N := 12) ?hd (cs := #[.int .i64 0, .string (⟨#[]⟩ : ByteArray), .string (⟨#[]⟩ : ByteArray), .bool false, .bool false, .int .i64 0]) (t := 41) ?hr ?_; (case hd => rfl); (case hg => rfl); (case hr => first | (go_simp; done) | (go_simp; rfl)); intro gl hg w5 hbox hb; have Z5 := Aside0.mk (Z4.out.trans (below0 hb)); have K5 := Aside0.mk (K4.out.then_ (Kept.of_below hb (fun _ => False)) (fun _ q => q.elim)); have D5 := Aside0.mk (D4.out.below hb); have A5 := Aside0.mk (blk_below A4.out hb); have O5 := Aside0.mk (blk_below O4.out hb); have C5 := Aside0.mk (blk_below C4.out hb); have L5 := Aside0.mk hbox; have GL := Aside0.mk (show w.heap.size ≤ gl ∧ gl ≠ go ∧ gl ≠ gb from ⟨by rw [hg]; exact Z4.out.size, by rw [hg]; exact Nat.ne_of_gt (blk_lt O4.out), by rw [hg]; exact Nat.ne_of_gt (blk_lt C4.out)⟩); have lc0 : w5.cell? ⟨gl, 0, none⟩ = some (.int .i64 0) := (blk_cell L5.out 0).trans rfl; have lf0 := blk_frozen L5.out 0; have lc1 : w5.cell? ⟨gl, 1, none⟩ = some (.string (⟨#[]⟩ : ByteArray)) := (blk_cell L5.out 1).trans rfl; have lf1 := blk_frozen L5.out 1; have lc2 : w5.cell? ⟨gl, 2, none⟩ = some (.string (⟨#[]⟩ : ByteArray)) := (blk_cell L5.out 2).trans rfl; have lf2 := blk_frozen L5.out 2; have lc3 : w5.cell? ⟨gl, 3, none⟩ = some (.bool false) := (blk_cell L5.out 3).trans rfl; have lf3 := blk_frozen L5.out 3; have lc4 : w5.cell? ⟨gl, 4, none⟩ = some (.bool false) := (blk_cell L5.out 4).trans rfl; have lf4 := blk_frozen L5.out 4; have lc5 : w5.cell? ⟨gl, 5, none⟩ = some (.int .i64 0) := (blk_cell L5.out 5).trans rfl; have lf5 := blk_frozen L5.out 5; clear hb hg hbox))
    clear lc0 lf0 lc1 lf1 lc2 lf2 lc3 lf3 lc4 lf4 lc5 lf5
    have Z6 := Aside0.mk (set6_below (B := 0) Z5.out (Nat.zero_le _) (.int .i64 0) (.string (⟨#[]⟩ : ByteArray)) (.string (⟨#[]⟩ : ByteArray)) (.bool false) (.bool false) (.int .i64 0) (g := gl))
    have K6 := Aside0.mk (K5.out.then_ (set6_kept w5 gl (.int .i64 0) (.string (⟨#[]⟩ : ByteArray)) (.string (⟨#[]⟩ : ByteArray)) (.bool false) (.bool false) (.int .i64 0)) (fun k hk => .inl (by subst hk; exact Nat.le_trans HN.out GL.out.1)))
    
    have D6 := Aside0.mk (D5.out.kept (set6_kept w5 gl (.int .i64 0) (.string (⟨#[]⟩ : ByteArray)) (.string (⟨#[]⟩ : ByteArray)) (.bool false) (.bool false) (.int .i64 0)) (fun k hk e => by subst e; exact absurd hk.2 (Nat.not_lt.mpr GL.out.1)))
    have C6 := Aside0.mk (blk_kp C5.out (set6_kept w5 gl (.int .i64 0) (.string (⟨#[]⟩ : ByteArray)) (.string (⟨#[]⟩ : ByteArray)) (.bool false) (.bool false) (.int .i64 0)) (fun e => GL.out.2.2 e.symm))
    have L6 := Aside0.mk (set6_blk L5.out (.int .i64 0) (.string (⟨#[]⟩ : ByteArray)) (.string (⟨#[]⟩ : ByteArray)) (.bool false) (.bool false) (.int .i64 0))
    unfold set6 at Z6 K6 D6 C6 L6
    generalize (((((w5.setCell ⟨gl, 0, none⟩ (.int .i64 0)).setCell ⟨gl, 1, none⟩ (.string (⟨#[]⟩ : ByteArray))).setCell ⟨gl, 2, none⟩ (.string (⟨#[]⟩ : ByteArray))).setCell ⟨gl, 3, none⟩ (.bool false)).setCell ⟨gl, 4, none⟩ (.bool false)).setCell ⟨gl, 5, none⟩ (.int .i64 0) = w6 at Z6 K6 D6 C6 L6 ⊢
    refine start_ (n := 7) (S := fun w' => w'.cell? ⟨gl, 0, none⟩ = some (.int .i64 0) ∧ w'.cell? ⟨gl, 1, none⟩ = some (.string (⟨#[]⟩ : ByteArray)) ∧ w'.cell? ⟨gl, 2, none⟩ = some (.string (⟨#[]⟩ : ByteArray)) ∧ w'.cell? ⟨gl, 3, none⟩ = some (.bool false) ∧ w'.cell? ⟨gl, 4, none⟩ = some (.bool false) ∧ w'.cell? ⟨gl, 5, none⟩ = some (.int .i64 0)) (ds := [5]) #[false, false, false, false, false, false, false] (by kernel_rfl) rfl rfl ⟨(blk_cell (blk_drew L6.out) 0).trans rfl, (blk_cell (blk_drew L6.out) 1).trans rfl, (blk_cell (blk_drew L6.out) 2).trans rfl, (blk_cell (blk_drew L6.out) 3).trans rfl, (blk_cell (blk_drew L6.out) 4).trans rfl, (blk_cell (blk_drew L6.out) 5).trans rfl⟩ (fun hHeld => ?_)
    refine pure_ (i := 1) (N := some 58) (v := ?_) (a' := ?_) #[false, true, false, false, false, false, false] rfl rfl (by kernel_rfl) (fun _ _ _ h => h) (Or.inl ⟨by rfl, ?_⟩) ?_ ?_
    rotate_left
    · intro w'
      go_simp
      with_reducible rfl
    rotate_left
    · simp only [Act.put, List.setIfInBounds_toArray, List.set_cons_zero, List.set_cons_succ, i64_w, i32_w]
      rfl
    refine pure_ (i := 3) (N := some 60) (v := ?_) (a' := ?_) #[false, true, false, true, false, false, false] rfl rfl (by kernel_rfl) (fun _ _ _ h => h) (Or.inl ⟨by rfl, ?_⟩) ?_ ?_
    rotate_left
    · intro w'
      go_simp
      with_reducible rfl
    rotate_left
    · simp only [Act.put, List.setIfInBounds_toArray, List.set_cons_zero, List.set_cons_succ, i64_w, i32_w]
      rfl
    refine take_ (i := 0) (N := some 57) (v := ?_) (a' := ?_) #[true, true, false, true, false, false, false] rfl rfl (by kernel_rfl) (fun _ _ _ h => h) (Or.inl ⟨by rfl, ?_⟩) hHeld ?_ ?_
    rotate_left
    · rintro w' ⟨s0, s1, s2, s3, s4, s5⟩
      go_simp
      with_reducible rfl
    rotate_left
    · simp only [Act.put, List.setIfInBounds_toArray, List.set_cons_zero, List.set_cons_succ, i64_w, i32_w]
      rfl
    refine one_ (i := 2) (N := some 59) #[true, true, true, true, false, false, false] rfl rfl (by kernel_rfl) (by decide) (fun K hK => ?_)
    refine goes_ Try.func15 (by kernel_rfl) rfl #[.pointer (some ⟨g, 0, none⟩)] (by rfl) rfl rfl (by simp only [List.map_toArray, List.map_cons, List.map_nil]; rfl) ?_
    with_reducible refine (d_SyncZ (P := fun k => N ≤ k ∧ k < w.heap.size) (w := w6.drew) (D6.out.below (below_drew (Below.refl _ _))) HO.out).mono ?_
    rintro e w7 ⟨rfl, hD, hK, hB⟩
    refine ⟨_, rfl, ?_⟩
    have Z7 := Aside0.mk (Z6.out.trans ((below0 (below_drew (Below.refl w6.heap.size w6))).trans hB))
    have K7 := Aside0.mk (K6.out.then_ (show Kept w6 w7 _ from hK) (fun k hk => .inl hk.1))
    have D7 := Aside0.mk (show IsD (fun k => (N ≤ k ∧ k < w.heap.size) ∨ w6.heap.size ≤ k) w7 g _ from hD)
    have L7 := Aside0.mk (blk_kp (blk_drew L6.out) hK (fun q => absurd q.2 (Nat.not_lt.mpr GL.out.1)))
    have C7 := Aside0.mk (blk_kp (blk_drew C6.out) hK (fun q => absurd q.2 (Nat.not_lt.mpr GB.out.1)))
    have sc0 : w7.cell? ⟨gb, 0, none⟩ = some (.int .i64 0) := (blk_cell C7.out 0).trans rfl
    have sf0 := blk_frozen C7.out 0
    have sc1 : w7.cell? ⟨gb, 1, none⟩ = some (.string (⟨#[]⟩ : ByteArray)) := (blk_cell C7.out 1).trans rfl
    have sf1 := blk_frozen C7.out 1
    have sc2 : w7.cell? ⟨gb, 2, none⟩ = some (.string (⟨#[]⟩ : ByteArray)) := (blk_cell C7.out 2).trans rfl
    have sf2 := blk_frozen C7.out 2
    have sc3 : w7.cell? ⟨gb, 3, none⟩ = some (.bool false) := (blk_cell C7.out 3).trans rfl
    have sf3 := blk_frozen C7.out 3
    have sc4 : w7.cell? ⟨gb, 4, none⟩ = some (.bool false) := (blk_cell C7.out 4).trans rfl
    have sf4 := blk_frozen C7.out 4
    have sc5 : w7.cell? ⟨gb, 5, none⟩ = some (.int .i64 0) := (blk_cell C7.out 5).trans rfl
    have sf5 := blk_frozen C7.out 5
    clear hD hK hB
    refine hK.out _ _ ⟨(blk_cell L7.out 0).trans rfl, (blk_cell L7.out 1).trans rfl, (blk_cell L7.out 2).trans rfl, (blk_cell L7.out 3).trans rfl, (blk_cell L7.out 4).trans rfl, (blk_cell L7.out 5).trans rfl⟩ (fun hHeld => ?_)
    clear hK K
    refine norm_ (a' := ?_) ?_ ?_
    rotate_left
    · show Act.put _ (some 59) _ = _
      simp only [Act.put, List.setIfInBounds_toArray, List.set_cons_zero, List.set_cons_succ, i64_w, i32_w]
      rfl
    refine pure_ (i := 4) (N := some 61) (v := ?_) (a' := ?_) #[true, true, true, true, true, false, false] rfl rfl (by kernel_rfl) (fun _ _ _ h => h) (Or.inl ⟨by rfl, ?_⟩) ?_ ?_
    rotate_left
    · intro w'
      go_simp
      with_reducible rfl
    rotate_left
    · simp only [Act.put, List.setIfInBounds_toArray, List.set_cons_zero, List.set_cons_succ, i64_w, i32_w]
      rfl
    refine last_ (i := 5) (N := none) #[true, true, true, true, true, true, false] rfl rfl (by kernel_rfl) (by decide) (fun K hK => ?_)
    refine skip_ (w1 := ?_) (by rfl) rfl ?_ ?_
    rotate_left
    · go_simp
      rfl
    refine hK.out _ _ ?_
    clear hK K
    refine pure_ (i := 6) (N := some 7) (v := ?_) (a' := ?_) #[true, true, true, true, true, true, true] rfl rfl (by kernel_rfl) (fun _ _ _ h => h) (Or.inl ⟨by rfl, ?_⟩) ?_ ?_
    rotate_left
    · intro w'
      go_simp
      with_reducible rfl
    rotate_left
    · simp only [Act.put, List.setIfInBounds_toArray, List.set_cons_zero, List.set_cons_succ, i64_w, i32_w]
      rfl
    refine done_ (by kernel_rfl) ?_

    go_wp2
    refine bodyPost_ret (results_ct rfl _ _ gb 41 #[.int .i64 0, .string (⟨#[]⟩ : ByteArray), .string (⟨#[]⟩ : ByteArray), .bool false, .bool false, .int .i64 0] (0, 0) _ rfl (set6_blk C7.out (.int .i64 0) (.string (⟨#[]⟩ : ByteArray)) (.string (⟨#[]⟩ : ByteArray)) (.bool false) (.bool false) (.int .i64 0)) Try.underlying41 rfl (by kernel_rfl)) rfl ?_
    rw [HDO.out]
    have F := FIN.out _ _ _ (set6_below (B := 0) (g := gb) Z7.out (Nat.zero_le _) (.int .i64 0) (.string (⟨#[]⟩ : ByteArray)) (.string (⟨#[]⟩ : ByteArray)) (.bool false) (.bool false) (.int .i64 0)) (K7.out.then_ (set6_kept w7 gb (.int .i64 0) (.string (⟨#[]⟩ : ByteArray)) (.string (⟨#[]⟩ : ByteArray)) (.bool false) (.bool false) (.int .i64 0)) (fun k hk => .inl (by subst hk; exact Nat.le_trans HN.out GB.out.1))) (D7.out.kept (set6_kept w7 gb (.int .i64 0) (.string (⟨#[]⟩ : ByteArray)) (.string (⟨#[]⟩ : ByteArray)) (.bool false) (.bool false) (.int .i64 0)) (fun k hk e => by subst e; exact hk.elim (fun q => absurd q.2 (Nat.not_lt.mpr GB.out.1)) (fun q => absurd (blk_lt C6.out) (Nat.not_lt.mpr q)))) (fun k hk => hk.elim (fun q => q.1) (fun q => Nat.le_trans HN.out (Nat.le_trans Z6.out.size q)))
    exact ⟨⟨_, rfl⟩, F.1, F.2⟩
  have t2 : (kind == 2) = false := beq_eq_false_iff_ne.mpr h2
  by_cases h3 : kind = 3
  · have t3 : (kind == 3) = true := beq_iff_eq.mpr h3
    have HDO := Aside0.mk (show d.doing kind n x turn = { d with fuse := mx n (-1) } by unfold DS.doing; rw [if_neg h0, if_neg h2, if_pos h3])
    clear h0 h2 h3
    by_cases hn : n < 0
    · have u1 : decide (n < 0) = true := decide_eq_true hn
      clear hn
      go_enter Try.func23, Try.ntmps23
      go_wp2_with (first | ((with_reducible refine gate_dst (N := 4) rfl ?_); refine box_event ?hg (N := 4) ?hd (cs := #[.int .i64 0, .string (⟨#[]⟩ : ByteArray), .string (⟨#[]⟩ : ByteArray), .bool false, .bool false, .int .i64 0]) (t := 41) ?hr ?_; (case hd => rfl); (case hg => rfl); (case hr => first | (go_simp; done) | (go_simp; rfl)); intro ga hg w1 hbox hb; have Z1 := Aside0.mk (below0 hb); have K1 := Aside0.mk (Kept.of_below hb (fun k => N ≤ k)); have D1 := Aside0.mk (D0.out.below hb); have A1 := Aside0.mk hbox; have GA := Aside0.mk hg; clear hb hg hbox) | ((with_reducible refine gate_dst (N := 5) rfl ?_); refine box_event ?hg (N := 5) ?hd (cs := #[.int .i64 kind, .int .i64 n, .slice A x.length c, .int .u8 turn]) (t := 38) ?hr ?_; (case hd => rfl); (case hg => rfl); (case hr => first | (go_simp; done) | (go_simp; rfl)); intro go hg w2 hbox hb; have Z2 := Aside0.mk (Z1.out.trans (below0 hb)); have K2 := Aside0.mk (K1.out.then_ (Kept.of_below hb (fun _ => False)) (fun _ q => q.elim)); have D2 := Aside0.mk (D1.out.below hb); have A2 := Aside0.mk (blk_below A1.out hb); have O2 := Aside0.mk hbox; have GO := Aside0.mk (show w.heap.size ≤ go ∧ ga ≠ go from ⟨by rw [hg]; exact Z1.out.size, by rw [hg]; exact Nat.ne_of_lt (blk_lt A1.out)⟩); clear hb hg hbox) | ((with_reducible refine gate_dst (N := 6) rfl ?_); refine box_event ?hg (N := 6) ?hd (cs := #[.int .i64 0, .string (⟨#[]⟩ : ByteArray), .string (⟨#[]⟩ : ByteArray), .bool false, .bool false, .int .i64 0]) (t := 41) ?hr ?_; (case hd => rfl); (case hg => rfl); (case hr => first | (go_simp; done) | (go_simp; rfl)); intro gb hg w3 hbox hb; have Z3 := Aside0.mk (Z2.out.trans (below0 hb)); have K3 := Aside0.mk (K2.out.then_ (Kept.of_below hb (fun _ => False)) (fun _ q => q.elim)); have D3 := Aside0.mk (D2.out.below hb); have A3 := Aside0.mk (blk_below A2.out hb); have O3 := Aside0.mk (blk_below O2.out hb); have C3 := Aside0.mk hbox; have GB := Aside0.mk (show w.heap.size ≤ gb ∧ ga ≠ gb ∧ go ≠ gb from ⟨by rw [hg]; exact Z2.out.size, by rw [hg]; exact Nat.ne_of_lt (blk_lt A2.out), by rw [hg]; exact Nat.ne_of_lt (blk_lt O2.out)⟩); have ac0 : w3.cell? ⟨ga, 0, none⟩ = some (.int .i64 0) := (blk_cell A3.out 0).trans rfl; have af0 := blk_frozen A3.out 0; have ac1 : w3.cell? ⟨ga, 1, none⟩ = some (.string (⟨#[]⟩ : ByteArray)) := (blk_cell A3.out 1).trans rfl; have af1 := blk_frozen A3.out 1; have ac2 : w3.cell? ⟨ga, 2, none⟩ = some (.string (⟨#[]⟩ : ByteArray)) := (blk_cell A3.out 2).trans rfl; have af2 := blk_frozen A3.out 2; have ac3 : w3.cell? ⟨ga, 3, none⟩ = some (.bool false) := (blk_cell A3.out 3).trans rfl; have af3 := blk_frozen A3.out 3; have ac4 : w3.cell? ⟨ga, 4, none⟩ = some (.bool false) := (blk_cell A3.out 4).trans rfl; have af4 := blk_frozen A3.out 4; have ac5 : w3.cell? ⟨ga, 5, none⟩ = some (.int .i64 0) := (blk_cell A3.out 5).trans rfl; have af5 := blk_frozen A3.out 5; have oc0 : w3.cell? ⟨go, 0, none⟩ = some (.int .i64 kind) := (blk_cell O3.out 0).trans rfl; have of0 := blk_frozen O3.out 0; have oc1 : w3.cell? ⟨go, 1, none⟩ = some (.int .i64 n) := (blk_cell O3.out 1).trans rfl; have of1 := blk_frozen O3.out 1; have oc2 : w3.cell? ⟨go, 2, none⟩ = some (.slice A x.length c) := (blk_cell O3.out 2).trans rfl; have of2 := blk_frozen O3.out 2; have oc3 : w3.cell? ⟨go, 3, none⟩ = some (.int .u8 turn) := (blk_cell O3.out 3).trans rfl; have of3 := blk_frozen O3.out 3; have hcv := Kd.C_string (P := Try.prog) (c := c) Try.underlying22 Try.underlying5 Try.underlying9 (HXP.out w3 K3.out); clear hb hg hbox))
      clear hcv ac0 af0 ac1 af1 ac2 af2 ac3 af3 ac4 af4 ac5 af5 oc0 of0 oc1 of1 oc2 of2 oc3 of3
      refine (d_Fuse D3.out).mono ?_; rintro e w4 ⟨rfl, hD, hK, hB⟩
      have Z4 := Aside0.mk (Z3.out.trans hB); have K4 := Aside0.mk (K3.out.then_ hK (fun k hk => .inl hk.1)); have D4 := Aside0.mk hD; have A4 := Aside0.mk (blk_kp A3.out hK (fun q => absurd q.2 (by rw [GA.out]; exact Nat.lt_irrefl _))); have O4 := Aside0.mk (blk_kp O3.out hK (fun q => absurd q.2 (Nat.not_lt.mpr GO.out.1))); have C4 := Aside0.mk (blk_kp C3.out hK (fun q => absurd q.2 (Nat.not_lt.mpr GB.out.1)))
      clear hD hK hB
      have bc0 : w4.cell? ⟨ga, 0, none⟩ = some (.int .i64 0) := (blk_cell A4.out 0).trans rfl
      have bf0 := blk_frozen A4.out 0
      have bc1 : w4.cell? ⟨ga, 1, none⟩ = some (.string (⟨#[]⟩ : ByteArray)) := (blk_cell A4.out 1).trans rfl
      have bf1 := blk_frozen A4.out 1
      have bc2 : w4.cell? ⟨ga, 2, none⟩ = some (.string (⟨#[]⟩ : ByteArray)) := (blk_cell A4.out 2).trans rfl
      have bf2 := blk_frozen A4.out 2
      have bc3 : w4.cell? ⟨ga, 3, none⟩ = some (.bool false) := (blk_cell A4.out 3).trans rfl
      have bf3 := blk_frozen A4.out 3
      have bc4 : w4.cell? ⟨ga, 4, none⟩ = some (.bool false) := (blk_cell A4.out 4).trans rfl
      have bf4 := blk_frozen A4.out 4
      have bc5 : w4.cell? ⟨ga, 5, none⟩ = some (.int .i64 0) := (blk_cell A4.out 5).trans rfl
      have bf5 := blk_frozen A4.out 5
      have qc0 : w4.cell? ⟨go, 0, none⟩ = some (.int .i64 kind) := (blk_cell O4.out 0).trans rfl
      have qf0 := blk_frozen O4.out 0
      have qc1 : w4.cell? ⟨go, 1, none⟩ = some (.int .i64 n) := (blk_cell O4.out 1).trans rfl
      have qf1 := blk_frozen O4.out 1
      have qc2 : w4.cell? ⟨go, 2, none⟩ = some (.slice A x.length c) := (blk_cell O4.out 2).trans rfl
      have qf2 := blk_frozen O4.out 2
      have qc3 : w4.cell? ⟨go, 3, none⟩ = some (.int .u8 turn) := (blk_cell O4.out 3).trans rfl
      have qf3 := blk_frozen O4.out 3
      go_wp2_with (first | ((with_reducible refine gate_dst (N := 71) rfl ?_); have Z5 := Aside0.mk (below0_set Z4.out ⟨ga, 5, none⟩ (.int .i64 n)); have K5 := Aside0.mk (K4.out.then_ ((Kept.refl w4 (fun k => k = ga)).setCell (p := ⟨ga, 5, none⟩) (.inl rfl) (.int .i64 n)) (fun k hk => .inl (by rw [hk, GA.out]; exact HN.out))); have D5 := Aside0.mk (D4.out.kept ((Kept.refl w4 (fun k => k = ga)).setCell (p := ⟨ga, 5, none⟩) (.inl rfl) (.int .i64 n)) (fun k hk e => by subst e; exact absurd hk.2 (by rw [GA.out]; exact Nat.lt_irrefl _))); have O5 := Aside0.mk (blk_kp O4.out ((Kept.refl w4 (fun k => k = ga)).setCell (p := ⟨ga, 5, none⟩) (.inl rfl) (.int .i64 n)) (fun e => GO.out.2 e.symm)); have C5 := Aside0.mk (blk_kp C4.out ((Kept.refl w4 (fun k => k = ga)).setCell (p := ⟨ga, 5, none⟩) (.inl rfl) (.int .i64 n)) (fun e => GB.out.2.1 e.symm)); have A5 := Aside0.mk (blk_put A4.out 5 (.int .i64 n) (cs' := #[.int .i64 0, .string (⟨#[]⟩ : ByteArray), .string (⟨#[]⟩ : ByteArray), .bool false, .bool false, .int .i64 n]) rfl); clear Z4 K4 D4 A4 O4 C4 bc0 bf0 bc1 bf1 bc2 bf2 bc3 bf3 bc4 bf4 bc5 bf5 qc0 qf0 qc1 qf1 qc2 qf2 qc3 qf3; generalize w4.setCell ⟨ga, 5, none⟩ (.int .i64 n) = w5 at Z5 K5 D5 A5 O5 C5 ⊢; have bc0 : w5.cell? ⟨ga, 0, none⟩ = some (.int .i64 0) := (blk_cell A5.out 0).trans rfl; have bf0 := blk_frozen A5.out 0; have bc1 : w5.cell? ⟨ga, 1, none⟩ = some (.string (⟨#[]⟩ : ByteArray)) := (blk_cell A5.out 1).trans rfl; have bf1 := blk_frozen A5.out 1; have bc2 : w5.cell? ⟨ga, 2, none⟩ = some (.string (⟨#[]⟩ : ByteArray)) := (blk_cell A5.out 2).trans rfl; have bf2 := blk_frozen A5.out 2; have bc3 : w5.cell? ⟨ga, 3, none⟩ = some (.bool false) := (blk_cell A5.out 3).trans rfl; have bf3 := blk_frozen A5.out 3; have bc4 : w5.cell? ⟨ga, 4, none⟩ = some (.bool false) := (blk_cell A5.out 4).trans rfl; have bf4 := blk_frozen A5.out 4; have bc5 : w5.cell? ⟨ga, 5, none⟩ = some (.int .i64 n) := (blk_cell A5.out 5).trans rfl; have bf5 := blk_frozen A5.out 5; have qc0 : w5.cell? ⟨go, 0, none⟩ = some (.int .i64 kind) := (blk_cell O5.out 0).trans rfl; have qf0 := blk_frozen O5.out 0; have qc1 : w5.cell? ⟨go, 1, none⟩ = some (.int .i64 n) := (blk_cell O5.out 1).trans rfl; have qf1 := blk_frozen O5.out 1; have qc2 : w5.cell? ⟨go, 2, none⟩ = some (.slice A x.length c) := (blk_cell O5.out 2).trans rfl; have qf2 := blk_frozen O5.out 2; have qc3 : w5.cell? ⟨go, 3, none⟩ = some (.int .u8 turn) := (blk_cell O5.out 3).trans rfl; have qf3 := blk_frozen O5.out 3; have sc0 : w5.cell? ⟨gb, 0, none⟩ = some (.int .i64 0) := (blk_cell C5.out 0).trans rfl; have sf0 := blk_frozen C5.out 0; have sc1 : w5.cell? ⟨gb, 1, none⟩ = some (.string (⟨#[]⟩ : ByteArray)) := (blk_cell C5.out 1).trans rfl; have sf1 := blk_frozen C5.out 1; have sc2 : w5.cell? ⟨gb, 2, none⟩ = some (.string (⟨#[]⟩ : ByteArray)) := (blk_cell C5.out 2).trans rfl; have sf2 := blk_frozen C5.out 2; have sc3 : w5.cell? ⟨gb, 3, none⟩ = some (.bool false) := (blk_cell C5.out 3).trans rfl; have sf3 := blk_frozen C5.out 3; have sc4 : w5.cell? ⟨gb, 4, none⟩ = some (.bool false) := (blk_cell C5.out 4).trans rfl; have sf4 := blk_frozen C5.out 4; have sc5 : w5.cell? ⟨gb, 5, none⟩ = some (.int .i64 0) := (blk_cell C5.out 5).trans rfl; have sf5 := blk_frozen C5.out 5) | ((with_reducible refine gate_dst (N := 95) rfl ?_); have Z6 := Aside0.mk (below0_set Z5.out ⟨ga, 5, none⟩ (.int .i64 (-1))); have K6 := Aside0.mk (K5.out.then_ ((Kept.refl w5 (fun k => k = ga)).setCell (p := ⟨ga, 5, none⟩) (.inl rfl) (.int .i64 (-1))) (fun k hk => .inl (by rw [hk, GA.out]; exact HN.out))); have D6 := Aside0.mk (D5.out.kept ((Kept.refl w5 (fun k => k = ga)).setCell (p := ⟨ga, 5, none⟩) (.inl rfl) (.int .i64 (-1))) (fun k hk e => by subst e; exact absurd hk.2 (by rw [GA.out]; exact Nat.lt_irrefl _))); have O6 := Aside0.mk (blk_kp O5.out ((Kept.refl w5 (fun k => k = ga)).setCell (p := ⟨ga, 5, none⟩) (.inl rfl) (.int .i64 (-1))) (fun e => GO.out.2 e.symm)); have C6 := Aside0.mk (blk_kp C5.out ((Kept.refl w5 (fun k => k = ga)).setCell (p := ⟨ga, 5, none⟩) (.inl rfl) (.int .i64 (-1))) (fun e => GB.out.2.1 e.symm)); have A6 := Aside0.mk (blk_put A5.out 5 (.int .i64 (-1)) (cs' := #[.int .i64 0, .string (⟨#[]⟩ : ByteArray), .string (⟨#[]⟩ : ByteArray), .bool false, .bool false, .int .i64 (-1)]) rfl); clear Z5 K5 D5 A5 O5 C5 bc0 bf0 bc1 bf1 bc2 bf2 bc3 bf3 bc4 bf4 bc5 bf5 qc0 qf0 qc1 qf1 qc2 qf2 qc3 qf3 sc0 sf0 sc1 sf1 sc2 sf2 sc3 sf3 sc4 sf4 sc5 sf5; generalize w5.setCell ⟨ga, 5, none⟩ (.int .i64 (-1)) = w6 at Z6 K6 D6 A6 O6 C6 ⊢; have bc0 : w6.cell? ⟨ga, 0, none⟩ = some (.int .i64 0) := (blk_cell A6.out 0).trans rfl; have bf0 := blk_frozen A6.out 0; have bc1 : w6.cell? ⟨ga, 1, none⟩ = some (.string (⟨#[]⟩ : ByteArray)) := (blk_cell A6.out 1).trans rfl; have bf1 := blk_frozen A6.out 1; have bc2 : w6.cell? ⟨ga, 2, none⟩ = some (.string (⟨#[]⟩ : ByteArray)) := (blk_cell A6.out 2).trans rfl; have bf2 := blk_frozen A6.out 2; have bc3 : w6.cell? ⟨ga, 3, none⟩ = some (.bool false) := (blk_cell A6.out 3).trans rfl; have bf3 := blk_frozen A6.out 3; have bc4 : w6.cell? ⟨ga, 4, none⟩ = some (.bool false) := (blk_cell A6.out 4).trans rfl; have bf4 := blk_frozen A6.out 4; have bc5 : w6.cell? ⟨ga, 5, none⟩ = some (.int .i64 (-1)) := (blk_cell A6.out 5).trans rfl; have bf5 := blk_frozen A6.out 5; have qc0 : w6.cell? ⟨go, 0, none⟩ = some (.int .i64 kind) := (blk_cell O6.out 0).trans rfl; have qf0 := blk_frozen O6.out 0; have qc1 : w6.cell? ⟨go, 1, none⟩ = some (.int .i64 n) := (blk_cell O6.out 1).trans rfl; have qf1 := blk_frozen O6.out 1; have qc2 : w6.cell? ⟨go, 2, none⟩ = some (.slice A x.length c) := (blk_cell O6.out 2).trans rfl; have qf2 := blk_frozen O6.out 2; have qc3 : w6.cell? ⟨go, 3, none⟩ = some (.int .u8 turn) := (blk_cell O6.out 3).trans rfl; have qf3 := blk_frozen O6.out 3; have sc0 : w6.cell? ⟨gb, 0, none⟩ = some (.int .i64 0) := (blk_cell C6.out 0).trans rfl; have sf0 := blk_frozen C6.out 0; have sc1 : w6.cell? ⟨gb, 1, none⟩ = some (.string (⟨#[]⟩ : ByteArray)) := (blk_cell C6.out 1).trans rfl; have sf1 := blk_frozen C6.out 1; have sc2 : w6.cell? ⟨gb, 2, none⟩ = some (.string (⟨#[]⟩ : ByteArray)) := (blk_cell C6.out 2).trans rfl; have sf2 := blk_frozen C6.out 2; have sc3 : w6.cell? ⟨gb, 3, none⟩ = some (.bool false) := (blk_cell C6.out 3).trans rfl; have sf3 := blk_frozen C6.out 3; have sc4 : w6.cell? ⟨gb, 4, none⟩ = some (.bool false) := (blk_cell C6.out 4).trans rfl; have sf4 := blk_frozen C6.out 4; have sc5 : w6.cell? ⟨gb, 5, none⟩ = some (.int .i64 0) := (blk_cell C6.out 5).trans rfl; have sf5 := blk_frozen C6.out 5))
      refine bodyPost_ret (results_ct rfl _ _ gb 41 #[.int .i64 0, .string (⟨#[]⟩ : ByteArray), .string (⟨#[]⟩ : ByteArray), .bool false, .bool false, .int .i64 (-1)] (0, 0) _ rfl (set6_blk C6.out (.int .i64 0) (.string (⟨#[]⟩ : ByteArray)) (.string (⟨#[]⟩ : ByteArray)) (.bool false) (.bool false) (.int .i64 (-1))) Try.underlying41 rfl (by kernel_rfl)) rfl ?_
      rw [HDO.out]
      have F := FIN.out _ _ _ (set6_below (B := 0) (g := gb) Z6.out (Nat.zero_le _) (.int .i64 0) (.string (⟨#[]⟩ : ByteArray)) (.string (⟨#[]⟩ : ByteArray)) (.bool false) (.bool false) (.int .i64 (-1))) (K6.out.then_ (set6_kept w6 gb (.int .i64 0) (.string (⟨#[]⟩ : ByteArray)) (.string (⟨#[]⟩ : ByteArray)) (.bool false) (.bool false) (.int .i64 (-1))) (fun k hk => .inl (by subst hk; exact Nat.le_trans HN.out GB.out.1))) (D6.out.kept (set6_kept w6 gb (.int .i64 0) (.string (⟨#[]⟩ : ByteArray)) (.string (⟨#[]⟩ : ByteArray)) (.bool false) (.bool false) (.int .i64 (-1))) (fun k hk e => by subst e; exact absurd hk.2 (Nat.not_lt.mpr GB.out.1))) (fun k hk => hk.1)
      exact ⟨⟨_, rfl⟩, F.1, F.2⟩
    have u1 : decide (n < 0) = false := decide_eq_false hn
    clear hn
    go_enter Try.func23, Try.ntmps23
    go_wp2_with (first | ((with_reducible refine gate_dst (N := 4) rfl ?_); refine box_event ?hg (N := 4) ?hd (cs := #[.int .i64 0, .string (⟨#[]⟩ : ByteArray), .string (⟨#[]⟩ : ByteArray), .bool false, .bool false, .int .i64 0]) (t := 41) ?hr ?_; (case hd => rfl); (case hg => rfl); (case hr => first | (go_simp; done) | (go_simp; rfl)); intro ga hg w1 hbox hb; have Z1 := Aside0.mk (below0 hb); have K1 := Aside0.mk (Kept.of_below hb (fun k => N ≤ k)); have D1 := Aside0.mk (D0.out.below hb); have A1 := Aside0.mk hbox; have GA := Aside0.mk hg; clear hb hg hbox) | ((with_reducible refine gate_dst (N := 5) rfl ?_); refine box_event ?hg (N := 5) ?hd (cs := #[.int .i64 kind, .int .i64 n, .slice A x.length c, .int .u8 turn]) (t := 38) ?hr ?_; (case hd => rfl); (case hg => rfl); (case hr => first | (go_simp; done) | (go_simp; rfl)); intro go hg w2 hbox hb; have Z2 := Aside0.mk (Z1.out.trans (below0 hb)); have K2 := Aside0.mk (K1.out.then_ (Kept.of_below hb (fun _ => False)) (fun _ q => q.elim)); have D2 := Aside0.mk (D1.out.below hb); have A2 := Aside0.mk (blk_below A1.out hb); have O2 := Aside0.mk hbox; have GO := Aside0.mk (show w.heap.size ≤ go ∧ ga ≠ go from ⟨by rw [hg]; exact Z1.out.size, by rw [hg]; exact Nat.ne_of_lt (blk_lt A1.out)⟩); clear hb hg hbox) | ((with_reducible refine gate_dst (N := 6) rfl ?_); refine box_event ?hg (N := 6) ?hd (cs := #[.int .i64 0, .string (⟨#[]⟩ : ByteArray), .string (⟨#[]⟩ : ByteArray), .bool false, .bool false, .int .i64 0]) (t := 41) ?hr ?_; (case hd => rfl); (case hg => rfl); (case hr => first | (go_simp; done) | (go_simp; rfl)); intro gb hg w3 hbox hb; have Z3 := Aside0.mk (Z2.out.trans (below0 hb)); have K3 := Aside0.mk (K2.out.then_ (Kept.of_below hb (fun _ => False)) (fun _ q => q.elim)); have D3 := Aside0.mk (D2.out.below hb); have A3 := Aside0.mk (blk_below A2.out hb); have O3 := Aside0.mk (blk_below O2.out hb); have C3 := Aside0.mk hbox; have GB := Aside0.mk (show w.heap.size ≤ gb ∧ ga ≠ gb ∧ go ≠ gb from ⟨by rw [hg]; exact Z2.out.size, by rw [hg]; exact Nat.ne_of_lt (blk_lt A2.out), by rw [hg]; exact Nat.ne_of_lt (blk_lt O2.out)⟩); have ac0 : w3.cell? ⟨ga, 0, none⟩ = some (.int .i64 0) := (blk_cell A3.out 0).trans rfl; have af0 := blk_frozen A3.out 0; have ac1 : w3.cell? ⟨ga, 1, none⟩ = some (.string (⟨#[]⟩ : ByteArray)) := (blk_cell A3.out 1).trans rfl; have af1 := blk_frozen A3.out 1; have ac2 : w3.cell? ⟨ga, 2, none⟩ = some (.string (⟨#[]⟩ : ByteArray)) := (blk_cell A3.out 2).trans rfl; have af2 := blk_frozen A3.out 2; have ac3 : w3.cell? ⟨ga, 3, none⟩ = some (.bool false) := (blk_cell A3.out 3).trans rfl; have af3 := blk_frozen A3.out 3; have ac4 : w3.cell? ⟨ga, 4, none⟩ = some (.bool false) := (blk_cell A3.out 4).trans rfl; have af4 := blk_frozen A3.out 4; have ac5 : w3.cell? ⟨ga, 5, none⟩ = some (.int .i64 0) := (blk_cell A3.out 5).trans rfl; have af5 := blk_frozen A3.out 5; have oc0 : w3.cell? ⟨go, 0, none⟩ = some (.int .i64 kind) := (blk_cell O3.out 0).trans rfl; have of0 := blk_frozen O3.out 0; have oc1 : w3.cell? ⟨go, 1, none⟩ = some (.int .i64 n) := (blk_cell O3.out 1).trans rfl; have of1 := blk_frozen O3.out 1; have oc2 : w3.cell? ⟨go, 2, none⟩ = some (.slice A x.length c) := (blk_cell O3.out 2).trans rfl; have of2 := blk_frozen O3.out 2; have oc3 : w3.cell? ⟨go, 3, none⟩ = some (.int .u8 turn) := (blk_cell O3.out 3).trans rfl; have of3 := blk_frozen O3.out 3; have hcv := Kd.C_string (P := Try.prog) (c := c) Try.underlying22 Try.underlying5 Try.underlying9 (HXP.out w3 K3.out); clear hb hg hbox))
    clear hcv ac0 af0 ac1 af1 ac2 af2 ac3 af3 ac4 af4 ac5 af5 oc0 of0 oc1 of1 oc2 of2 oc3 of3
    refine (d_Fuse D3.out).mono ?_; rintro e w4 ⟨rfl, hD, hK, hB⟩
    have Z4 := Aside0.mk (Z3.out.trans hB); have K4 := Aside0.mk (K3.out.then_ hK (fun k hk => .inl hk.1)); have D4 := Aside0.mk hD; have A4 := Aside0.mk (blk_kp A3.out hK (fun q => absurd q.2 (by rw [GA.out]; exact Nat.lt_irrefl _))); have O4 := Aside0.mk (blk_kp O3.out hK (fun q => absurd q.2 (Nat.not_lt.mpr GO.out.1))); have C4 := Aside0.mk (blk_kp C3.out hK (fun q => absurd q.2 (Nat.not_lt.mpr GB.out.1)))
    clear hD hK hB
    have bc0 : w4.cell? ⟨ga, 0, none⟩ = some (.int .i64 0) := (blk_cell A4.out 0).trans rfl
    have bf0 := blk_frozen A4.out 0
    have bc1 : w4.cell? ⟨ga, 1, none⟩ = some (.string (⟨#[]⟩ : ByteArray)) := (blk_cell A4.out 1).trans rfl
    have bf1 := blk_frozen A4.out 1
    have bc2 : w4.cell? ⟨ga, 2, none⟩ = some (.string (⟨#[]⟩ : ByteArray)) := (blk_cell A4.out 2).trans rfl
    have bf2 := blk_frozen A4.out 2
    have bc3 : w4.cell? ⟨ga, 3, none⟩ = some (.bool false) := (blk_cell A4.out 3).trans rfl
    have bf3 := blk_frozen A4.out 3
    have bc4 : w4.cell? ⟨ga, 4, none⟩ = some (.bool false) := (blk_cell A4.out 4).trans rfl
    have bf4 := blk_frozen A4.out 4
    have bc5 : w4.cell? ⟨ga, 5, none⟩ = some (.int .i64 0) := (blk_cell A4.out 5).trans rfl
    have bf5 := blk_frozen A4.out 5
    have qc0 : w4.cell? ⟨go, 0, none⟩ = some (.int .i64 kind) := (blk_cell O4.out 0).trans rfl
    have qf0 := blk_frozen O4.out 0
    have qc1 : w4.cell? ⟨go, 1, none⟩ = some (.int .i64 n) := (blk_cell O4.out 1).trans rfl
    have qf1 := blk_frozen O4.out 1
    have qc2 : w4.cell? ⟨go, 2, none⟩ = some (.slice A x.length c) := (blk_cell O4.out 2).trans rfl
    have qf2 := blk_frozen O4.out 2
    have qc3 : w4.cell? ⟨go, 3, none⟩ = some (.int .u8 turn) := (blk_cell O4.out 3).trans rfl
    have qf3 := blk_frozen O4.out 3
    go_wp2_with (first | ((with_reducible refine gate_dst (N := 71) rfl ?_); have Z5 := Aside0.mk (below0_set Z4.out ⟨ga, 5, none⟩ (.int .i64 n)); have K5 := Aside0.mk (K4.out.then_ ((Kept.refl w4 (fun k => k = ga)).setCell (p := ⟨ga, 5, none⟩) (.inl rfl) (.int .i64 n)) (fun k hk => .inl (by rw [hk, GA.out]; exact HN.out))); have D5 := Aside0.mk (D4.out.kept ((Kept.refl w4 (fun k => k = ga)).setCell (p := ⟨ga, 5, none⟩) (.inl rfl) (.int .i64 n)) (fun k hk e => by subst e; exact absurd hk.2 (by rw [GA.out]; exact Nat.lt_irrefl _))); have O5 := Aside0.mk (blk_kp O4.out ((Kept.refl w4 (fun k => k = ga)).setCell (p := ⟨ga, 5, none⟩) (.inl rfl) (.int .i64 n)) (fun e => GO.out.2 e.symm)); have C5 := Aside0.mk (blk_kp C4.out ((Kept.refl w4 (fun k => k = ga)).setCell (p := ⟨ga, 5, none⟩) (.inl rfl) (.int .i64 n)) (fun e => GB.out.2.1 e.symm)); have A5 := Aside0.mk (blk_put A4.out 5 (.int .i64 n) (cs' := #[.int .i64 0, .string (⟨#[]⟩ : ByteArray), .string (⟨#[]⟩ : ByteArray), .bool false, .bool false, .int .i64 n]) rfl); clear Z4 K4 D4 A4 O4 C4 bc0 bf0 bc1 bf1 bc2 bf2 bc3 bf3 bc4 bf4 bc5 bf5 qc0 qf0 qc1 qf1 qc2 qf2 qc3 qf3; generalize w4.setCell ⟨ga, 5, none⟩ (.int .i64 n) = w5 at Z5 K5 D5 A5 O5 C5 ⊢; have bc0 : w5.cell? ⟨ga, 0, none⟩ = some (.int .i64 0) := (blk_cell A5.out 0).trans rfl; have bf0 := blk_frozen A5.out 0; have bc1 : w5.cell? ⟨ga, 1, none⟩ = some (.string (⟨#[]⟩ : ByteArray)) := (blk_cell A5.out 1).trans rfl; have bf1 := blk_frozen A5.out 1; have bc2 : w5.cell? ⟨ga, 2, none⟩ = some (.string (⟨#[]⟩ : ByteArray)) := (blk_cell A5.out 2).trans rfl; have bf2 := blk_frozen A5.out 2; have bc3 : w5.cell? ⟨ga, 3, none⟩ = some (.bool false) := (blk_cell A5.out 3).trans rfl; have bf3 := blk_frozen A5.out 3; have bc4 : w5.cell? ⟨ga, 4, none⟩ = some (.bool false) := (blk_cell A5.out 4).trans rfl; have bf4 := blk_frozen A5.out 4; have bc5 : w5.cell? ⟨ga, 5, none⟩ = some (.int .i64 n) := (blk_cell A5.out 5).trans rfl; have bf5 := blk_frozen A5.out 5; have qc0 : w5.cell? ⟨go, 0, none⟩ = some (.int .i64 kind) := (blk_cell O5.out 0).trans rfl; have qf0 := blk_frozen O5.out 0; have qc1 : w5.cell? ⟨go, 1, none⟩ = some (.int .i64 n) := (blk_cell O5.out 1).trans rfl; have qf1 := blk_frozen O5.out 1; have qc2 : w5.cell? ⟨go, 2, none⟩ = some (.slice A x.length c) := (blk_cell O5.out 2).trans rfl; have qf2 := blk_frozen O5.out 2; have qc3 : w5.cell? ⟨go, 3, none⟩ = some (.int .u8 turn) := (blk_cell O5.out 3).trans rfl; have qf3 := blk_frozen O5.out 3; have sc0 : w5.cell? ⟨gb, 0, none⟩ = some (.int .i64 0) := (blk_cell C5.out 0).trans rfl; have sf0 := blk_frozen C5.out 0; have sc1 : w5.cell? ⟨gb, 1, none⟩ = some (.string (⟨#[]⟩ : ByteArray)) := (blk_cell C5.out 1).trans rfl; have sf1 := blk_frozen C5.out 1; have sc2 : w5.cell? ⟨gb, 2, none⟩ = some (.string (⟨#[]⟩ : ByteArray)) := (blk_cell C5.out 2).trans rfl; have sf2 := blk_frozen C5.out 2; have sc3 : w5.cell? ⟨gb, 3, none⟩ = some (.bool false) := (blk_cell C5.out 3).trans rfl; have sf3 := blk_frozen C5.out 3; have sc4 : w5.cell? ⟨gb, 4, none⟩ = some (.bool false) := (blk_cell C5.out 4).trans rfl; have sf4 := blk_frozen C5.out 4; have sc5 : w5.cell? ⟨gb, 5, none⟩ = some (.int .i64 0) := (blk_cell C5.out 5).trans rfl; have sf5 := blk_frozen C5.out 5))
    refine bodyPost_ret (results_ct rfl _ _ gb 41 #[.int .i64 0, .string (⟨#[]⟩ : ByteArray), .string (⟨#[]⟩ : ByteArray), .bool false, .bool false, .int .i64 n] (0, 0) _ rfl (set6_blk C5.out (.int .i64 0) (.string (⟨#[]⟩ : ByteArray)) (.string (⟨#[]⟩ : ByteArray)) (.bool false) (.bool false) (.int .i64 n)) Try.underlying41 rfl (by kernel_rfl)) rfl ?_
    rw [HDO.out]
    have F := FIN.out _ _ _ (set6_below (B := 0) (g := gb) Z5.out (Nat.zero_le _) (.int .i64 0) (.string (⟨#[]⟩ : ByteArray)) (.string (⟨#[]⟩ : ByteArray)) (.bool false) (.bool false) (.int .i64 n)) (K5.out.then_ (set6_kept w5 gb (.int .i64 0) (.string (⟨#[]⟩ : ByteArray)) (.string (⟨#[]⟩ : ByteArray)) (.bool false) (.bool false) (.int .i64 n)) (fun k hk => .inl (by subst hk; exact Nat.le_trans HN.out GB.out.1))) (D5.out.kept (set6_kept w5 gb (.int .i64 0) (.string (⟨#[]⟩ : ByteArray)) (.string (⟨#[]⟩ : ByteArray)) (.bool false) (.bool false) (.int .i64 n)) (fun k hk e => by subst e; exact absurd hk.2 (Nat.not_lt.mpr GB.out.1))) (fun k hk => hk.1)
    exact ⟨⟨_, rfl⟩, F.1, F.2⟩
  have t3 : (kind == 3) = false := beq_eq_false_iff_ne.mpr h3
  by_cases h4 : kind = 4
  · have t4 : (kind == 4) = true := beq_iff_eq.mpr h4
    have HDO := Aside0.mk (show d.doing kind n x turn = d.crash n turn by unfold DS.doing; rw [if_neg h0, if_neg h2, if_neg h3, if_pos h4])
    obtain ⟨kc, r1, r2, r3, r4, r5, r6, hw0⟩ := ref06_Crash0 n turn
    have HW0 := Aside0.mk hw0
    clear h0 h2 h3 h4 hw0
    go_enter Try.func23, Try.ntmps23
    go_wp2_with (first | ((with_reducible refine gate_dst (N := 4) rfl ?_); refine box_event ?hg (N := 4) ?hd (cs := #[.int .i64 0, .string (⟨#[]⟩ : ByteArray), .string (⟨#[]⟩ : ByteArray), .bool false, .bool false, .int .i64 0]) (t := 41) ?hr ?_; (case hd => rfl); (case hg => rfl); (case hr => first | (go_simp; done) | (go_simp; rfl)); intro ga hg w1 hbox hb; have Z1 := Aside0.mk (below0 hb); have K1 := Aside0.mk (Kept.of_below hb (fun k => N ≤ k)); have D1 := Aside0.mk (D0.out.below hb); have A1 := Aside0.mk hbox; have GA := Aside0.mk hg; clear hb hg hbox) | ((with_reducible refine gate_dst (N := 5) rfl ?_); refine box_event ?hg (N := 5) ?hd (cs := #[.int .i64 kind, .int .i64 n, .slice A x.length c, .int .u8 turn]) (t := 38) ?hr ?_; (case hd => rfl); (case hg => rfl); (case hr => first | (go_simp; done) | (go_simp; rfl)); intro go hg w2 hbox hb; have Z2 := Aside0.mk (Z1.out.trans (below0 hb)); have K2 := Aside0.mk (K1.out.then_ (Kept.of_below hb (fun _ => False)) (fun _ q => q.elim)); have D2 := Aside0.mk (D1.out.below hb); have A2 := Aside0.mk (blk_below A1.out hb); have O2 := Aside0.mk hbox; have GO := Aside0.mk (show w.heap.size ≤ go ∧ ga ≠ go from ⟨by rw [hg]; exact Z1.out.size, by rw [hg]; exact Nat.ne_of_lt (blk_lt A1.out)⟩); clear hb hg hbox) | ((with_reducible refine gate_dst (N := 6) rfl ?_); refine box_event ?hg (N := 6) ?hd (cs := #[.int .i64 0, .string (⟨#[]⟩ : ByteArray), .string (⟨#[]⟩ : ByteArray), .bool false, .bool false, .int .i64 0]) (t := 41) ?hr ?_; (case hd => rfl); (case hg => rfl); (case hr => first | (go_simp; done) | (go_simp; rfl)); intro gb hg w3 hbox hb; have Z3 := Aside0.mk (Z2.out.trans (below0 hb)); have K3 := Aside0.mk (K2.out.then_ (Kept.of_below hb (fun _ => False)) (fun _ q => q.elim)); have D3 := Aside0.mk (D2.out.below hb); have A3 := Aside0.mk (blk_below A2.out hb); have O3 := Aside0.mk (blk_below O2.out hb); have C3 := Aside0.mk hbox; have GB := Aside0.mk (show w.heap.size ≤ gb ∧ ga ≠ gb ∧ go ≠ gb from ⟨by rw [hg]; exact Z2.out.size, by rw [hg]; exact Nat.ne_of_lt (blk_lt A2.out), by rw [hg]; exact Nat.ne_of_lt (blk_lt O2.out)⟩); have ac0 : w3.cell? ⟨ga, 0, none⟩ = some (.int .i64 0) := (blk_cell A3.out 0).trans rfl; have af0 := blk_frozen A3.out 0; have ac1 : w3.cell? ⟨ga, 1, none⟩ = some (.string (⟨#[]⟩ : ByteArray)) := (blk_cell A3.out 1).trans rfl; have af1 := blk_frozen A3.out 1; have ac2 : w3.cell? ⟨ga, 2, none⟩ = some (.string (⟨#[]⟩ : ByteArray)) := (blk_cell A3.out 2).trans rfl; have af2 := blk_frozen A3.out 2; have ac3 : w3.cell? ⟨ga, 3, none⟩ = some (.bool false) := (blk_cell A3.out 3).trans rfl; have af3 := blk_frozen A3.out 3; have ac4 : w3.cell? ⟨ga, 4, none⟩ = some (.bool false) := (blk_cell A3.out 4).trans rfl; have af4 := blk_frozen A3.out 4; have ac5 : w3.cell? ⟨ga, 5, none⟩ = some (.int .i64 0) := (blk_cell A3.out 5).trans rfl; have af5 := blk_frozen A3.out 5; have oc0 : w3.cell? ⟨go, 0, none⟩ = some (.int .i64 kind) := (blk_cell O3.out 0).trans rfl; have of0 := blk_frozen O3.out 0; have oc1 : w3.cell? ⟨go, 1, none⟩ = some (.int .i64 n) := (blk_cell O3.out 1).trans rfl; have of1 := blk_frozen O3.out 1; have oc2 : w3.cell? ⟨go, 2, none⟩ = some (.slice A x.length c) := (blk_cell O3.out 2).trans rfl; have of2 := blk_frozen O3.out 2; have oc3 : w3.cell? ⟨go, 3, none⟩ = some (.int .u8 turn) := (blk_cell O3.out 3).trans rfl; have of3 := blk_frozen O3.out 3; have hcv := Kd.C_string (P := Try.prog) (c := c) Try.underlying22 Try.underlying5 Try.underlying9 (HXP.out w3 K3.out); clear hb hg hbox))
    clear hcv ac0 af0 ac1 af1 ac2 af2 ac3 af3 ac4 af4 ac5 af5 oc0 of0 oc1 of1 oc2 of2 oc3 of3
    refine (d_Crash (keep := n) (turn := turn) D3.out HO.out HS.out HT.out).mono ?_; rintro e w4 ⟨rfl, hD, hK, hB⟩
    have Z4 := Aside0.mk (Z3.out.trans hB); have K4 := Aside0.mk (K3.out.then_ hK (fun k hk => .inl hk.1)); have D4 := Aside0.mk hD; have A4 := Aside0.mk (blk_kp A3.out hK (fun q => absurd q.2 (by rw [GA.out]; exact Nat.lt_irrefl _))); have O4 := Aside0.mk (blk_kp O3.out hK (fun q => absurd q.2 (Nat.not_lt.mpr GO.out.1))); have C4 := Aside0.mk (blk_kp C3.out hK (fun q => absurd q.2 (Nat.not_lt.mpr GB.out.1)))
    clear hD hK hB
    have bc0 : w4.cell? ⟨ga, 0, none⟩ = some (.int .i64 0) := (blk_cell A4.out 0).trans rfl
    have bf0 := blk_frozen A4.out 0
    have bc1 : w4.cell? ⟨ga, 1, none⟩ = some (.string (⟨#[]⟩ : ByteArray)) := (blk_cell A4.out 1).trans rfl
    have bf1 := blk_frozen A4.out 1
    have bc2 : w4.cell? ⟨ga, 2, none⟩ = some (.string (⟨#[]⟩ : ByteArray)) := (blk_cell A4.out 2).trans rfl
    have bf2 := blk_frozen A4.out 2
    have bc3 : w4.cell? ⟨ga, 3, none⟩ = some (.bool false) := (blk_cell A4.out 3).trans rfl
    have bf3 := blk_frozen A4.out 3
    have bc4 : w4.cell? ⟨ga, 4, none⟩ = some (.bool false) := (blk_cell A4.out 4).trans rfl
    have bf4 := blk_frozen A4.out 4
    have bc5 : w4.cell? ⟨ga, 5, none⟩ = some (.int .i64 0) := (blk_cell A4.out 5).trans rfl
    have bf5 := blk_frozen A4.out 5
    have qc0 : w4.cell? ⟨go, 0, none⟩ = some (.int .i64 kind) := (blk_cell O4.out 0).trans rfl
    have qf0 := blk_frozen O4.out 0
    have qc1 : w4.cell? ⟨go, 1, none⟩ = some (.int .i64 n) := (blk_cell O4.out 1).trans rfl
    have qf1 := blk_frozen O4.out 1
    have qc2 : w4.cell? ⟨go, 2, none⟩ = some (.slice A x.length c) := (blk_cell O4.out 2).trans rfl
    have qf2 := blk_frozen O4.out 2
    have qc3 : w4.cell? ⟨go, 3, none⟩ = some (.int .u8 turn) := (blk_cell O4.out 3).trans rfl
    have qf3 := blk_frozen O4.out 3
    go_wp2_with fail
    refine (contraref06_Crash.calls kc 0 ⟨#[]⟩ ⟨#[]⟩ false false 0 n turn r1 r2 r3 r4 r5 r6 w4 HW0.out).mono ?_; rintro e w5 ⟨rfl, hb⟩
    have Z5 := Aside0.mk (Z4.out.trans (below0 hb))
    have K5 := Aside0.mk (K4.out.then_ (Kept.of_below hb (fun _ => False)) (fun _ q => q.elim))
    have D5 := Aside0.mk (D4.out.below hb)
    have A5 := Aside0.mk (blk_below A4.out hb)
    have O5 := Aside0.mk (blk_below O4.out hb)
    have C5 := Aside0.mk (blk_below C4.out hb)
    clear hb bc0 bf0 bc1 bf1 bc2 bf2 bc3 bf3 bc4 bf4 bc5 bf5 qc0 qf0 qc1 qf1 qc2 qf2 qc3 qf3
    have bc0 : w5.cell? ⟨ga, 0, none⟩ = some (.int .i64 0) := (blk_cell A5.out 0).trans rfl
    have bf0 := blk_frozen A5.out 0
    have bc1 : w5.cell? ⟨ga, 1, none⟩ = some (.string (⟨#[]⟩ : ByteArray)) := (blk_cell A5.out 1).trans rfl
    have bf1 := blk_frozen A5.out 1
    have bc2 : w5.cell? ⟨ga, 2, none⟩ = some (.string (⟨#[]⟩ : ByteArray)) := (blk_cell A5.out 2).trans rfl
    have bf2 := blk_frozen A5.out 2
    have bc3 : w5.cell? ⟨ga, 3, none⟩ = some (.bool false) := (blk_cell A5.out 3).trans rfl
    have bf3 := blk_frozen A5.out 3
    have bc4 : w5.cell? ⟨ga, 4, none⟩ = some (.bool false) := (blk_cell A5.out 4).trans rfl
    have bf4 := blk_frozen A5.out 4
    have bc5 : w5.cell? ⟨ga, 5, none⟩ = some (.int .i64 0) := (blk_cell A5.out 5).trans rfl
    have bf5 := blk_frozen A5.out 5
    go_wp2_with (first | ((with_reducible refine gate_dst (N := 95) rfl ?_); have Z6 := Aside0.mk (set6_below (B := 0) (g := ga) Z5.out (Nat.zero_le _) (.int .i64 r1) (.string r2) (.string r3) (.bool r4) (.bool r5) (.int .i64 r6)); have K6 := Aside0.mk (K5.out.then_ (set6_kept w5 ga (.int .i64 r1) (.string r2) (.string r3) (.bool r4) (.bool r5) (.int .i64 r6)) (fun k hk => .inl (by rw [hk, GA.out]; exact HN.out))); have D6 := Aside0.mk (D5.out.kept (set6_kept w5 ga (.int .i64 r1) (.string r2) (.string r3) (.bool r4) (.bool r5) (.int .i64 r6)) (fun k hk e => by subst e; exact hk.elim (fun q => absurd q.2 (by rw [GA.out]; exact Nat.lt_irrefl _)) (fun q => absurd (blk_lt A3.out) (Nat.not_lt.mpr q)))); have O6 := Aside0.mk (blk_kp O5.out (set6_kept w5 ga (.int .i64 r1) (.string r2) (.string r3) (.bool r4) (.bool r5) (.int .i64 r6)) (fun e => GO.out.2 e.symm)); have C6 := Aside0.mk (blk_kp C5.out (set6_kept w5 ga (.int .i64 r1) (.string r2) (.string r3) (.bool r4) (.bool r5) (.int .i64 r6)) (fun e => GB.out.2.1 e.symm)); have A6 := Aside0.mk (set6_blk A5.out (.int .i64 r1) (.string r2) (.string r3) (.bool r4) (.bool r5) (.int .i64 r6)); clear Z5 K5 D5 A5 O5 C5 bc0 bf0 bc1 bf1 bc2 bf2 bc3 bf3 bc4 bf4 bc5 bf5; unfold set6 at Z6 K6 D6 A6 O6 C6; generalize (((((w5.setCell ⟨ga, 0, none⟩ (.int .i64 r1)).setCell ⟨ga, 1, none⟩ (.string r2)).setCell ⟨ga, 2, none⟩ (.string r3)).setCell ⟨ga, 3, none⟩ (.bool r4)).setCell ⟨ga, 4, none⟩ (.bool r5)).setCell ⟨ga, 5, none⟩ (.int .i64 r6) = w6 at Z6 K6 D6 A6 O6 C6 ⊢; have bc0 : w6.cell? ⟨ga, 0, none⟩ = some (.int .i64 r1) := (blk_cell A6.out 0).trans rfl; have bf0 := blk_frozen A6.out 0; have bc1 : w6.cell? ⟨ga, 1, none⟩ = some (.string r2) := (blk_cell A6.out 1).trans rfl; have bf1 := blk_frozen A6.out 1; have bc2 : w6.cell? ⟨ga, 2, none⟩ = some (.string r3) := (blk_cell A6.out 2).trans rfl; have bf2 := blk_frozen A6.out 2; have bc3 : w6.cell? ⟨ga, 3, none⟩ = some (.bool r4) := (blk_cell A6.out 3).trans rfl; have bf3 := blk_frozen A6.out 3; have bc4 : w6.cell? ⟨ga, 4, none⟩ = some (.bool r5) := (blk_cell A6.out 4).trans rfl; have bf4 := blk_frozen A6.out 4; have bc5 : w6.cell? ⟨ga, 5, none⟩ = some (.int .i64 r6) := (blk_cell A6.out 5).trans rfl; have bf5 := blk_frozen A6.out 5; have sc0 : w6.cell? ⟨gb, 0, none⟩ = some (.int .i64 0) := (blk_cell C6.out 0).trans rfl; have sf0 := blk_frozen C6.out 0; have sc1 : w6.cell? ⟨gb, 1, none⟩ = some (.string (⟨#[]⟩ : ByteArray)) := (blk_cell C6.out 1).trans rfl; have sf1 := blk_frozen C6.out 1; have sc2 : w6.cell? ⟨gb, 2, none⟩ = some (.string (⟨#[]⟩ : ByteArray)) := (blk_cell C6.out 2).trans rfl; have sf2 := blk_frozen C6.out 2; have sc3 : w6.cell? ⟨gb, 3, none⟩ = some (.bool false) := (blk_cell C6.out 3).trans rfl; have sf3 := blk_frozen C6.out 3; have sc4 : w6.cell? ⟨gb, 4, none⟩ = some (.bool false) := (blk_cell C6.out 4).trans rfl; have sf4 := blk_frozen C6.out 4; have sc5 : w6.cell? ⟨gb, 5, none⟩ = some (.int .i64 0) := (blk_cell C6.out 5).trans rfl; have sf5 := blk_frozen C6.out 5))
    refine bodyPost_ret (results_ct rfl _ _ gb 41 #[.int .i64 r1, .string r2, .string r3, .bool r4, .bool r5, .int .i64 r6] (0, 0) _ rfl (set6_blk C6.out (.int .i64 r1) (.string r2) (.string r3) (.bool r4) (.bool r5) (.int .i64 r6)) Try.underlying41 rfl (by kernel_rfl)) rfl ?_
    rw [HDO.out]
    have F := FIN.out _ _ _ (set6_below (B := 0) (g := gb) Z6.out (Nat.zero_le _) (.int .i64 r1) (.string r2) (.string r3) (.bool r4) (.bool r5) (.int .i64 r6)) (K6.out.then_ (set6_kept w6 gb (.int .i64 r1) (.string r2) (.string r3) (.bool r4) (.bool r5) (.int .i64 r6)) (fun k hk => .inl (by subst hk; exact Nat.le_trans HN.out GB.out.1))) (D6.out.kept (set6_kept w6 gb (.int .i64 r1) (.string r2) (.string r3) (.bool r4) (.bool r5) (.int .i64 r6)) (fun k hk e => by subst e; exact hk.elim (fun q => absurd q.2 (Nat.not_lt.mpr GB.out.1)) (fun q => absurd (blk_lt C3.out) (Nat.not_lt.mpr q)))) (fun k hk => hk.elim (fun q => q.1) (fun q => Nat.le_trans HN.out (Nat.le_trans Z3.out.size q)))
    exact ⟨⟨_, rfl⟩, F.1, F.2⟩
  have t4 : (kind == 4) = false := beq_eq_false_iff_ne.mpr h4
  by_cases h5 : kind = 5
  · have t5 : (kind == 5) = true := beq_iff_eq.mpr h5
    have HDO := Aside0.mk (show d.doing kind n x turn = d.up by unfold DS.doing; rw [if_neg h0, if_neg h2, if_neg h3, if_neg h4, if_pos h5])
    clear h0 h2 h3 h4 h5
    go_enter Try.func23, Try.ntmps23
    go_wp2_with (first | ((with_reducible refine gate_dst (N := 4) rfl ?_); refine box_event ?hg (N := 4) ?hd (cs := #[.int .i64 0, .string (⟨#[]⟩ : ByteArray), .string (⟨#[]⟩ : ByteArray), .bool false, .bool false, .int .i64 0]) (t := 41) ?hr ?_; (case hd => rfl); (case hg => rfl); (case hr => first | (go_simp; done) | (go_simp; rfl)); intro ga hg w1 hbox hb; have Z1 := Aside0.mk (below0 hb); have K1 := Aside0.mk (Kept.of_below hb (fun k => N ≤ k)); have D1 := Aside0.mk (D0.out.below hb); have A1 := Aside0.mk hbox; have GA := Aside0.mk hg; clear hb hg hbox) | ((with_reducible refine gate_dst (N := 5) rfl ?_); refine box_event ?hg (N := 5) ?hd (cs := #[.int .i64 kind, .int .i64 n, .slice A x.length c, .int .u8 turn]) (t := 38) ?hr ?_; (case hd => rfl); (case hg => rfl); (case hr => first | (go_simp; done) | (go_simp; rfl)); intro go hg w2 hbox hb; have Z2 := Aside0.mk (Z1.out.trans (below0 hb)); have K2 := Aside0.mk (K1.out.then_ (Kept.of_below hb (fun _ => False)) (fun _ q => q.elim)); have D2 := Aside0.mk (D1.out.below hb); have A2 := Aside0.mk (blk_below A1.out hb); have O2 := Aside0.mk hbox; have GO := Aside0.mk (show w.heap.size ≤ go ∧ ga ≠ go from ⟨by rw [hg]; exact Z1.out.size, by rw [hg]; exact Nat.ne_of_lt (blk_lt A1.out)⟩); clear hb hg hbox) | ((with_reducible refine gate_dst (N := 6) rfl ?_); refine box_event ?hg (N := 6) ?hd (cs := #[.int .i64 0, .string (⟨#[]⟩ : ByteArray), .string (⟨#[]⟩ : ByteArray), .bool false, .bool false, .int .i64 0]) (t := 41) ?hr ?_; (case hd => rfl); (case hg => rfl); (case hr => first | (go_simp; done) | (go_simp; rfl)); intro gb hg w3 hbox hb; have Z3 := Aside0.mk (Z2.out.trans (below0 hb)); have K3 := Aside0.mk (K2.out.then_ (Kept.of_below hb (fun _ => False)) (fun _ q => q.elim)); have D3 := Aside0.mk (D2.out.below hb); have A3 := Aside0.mk (blk_below A2.out hb); have O3 := Aside0.mk (blk_below O2.out hb); have C3 := Aside0.mk hbox; have GB := Aside0.mk (show w.heap.size ≤ gb ∧ ga ≠ gb ∧ go ≠ gb from ⟨by rw [hg]; exact Z2.out.size, by rw [hg]; exact Nat.ne_of_lt (blk_lt A2.out), by rw [hg]; exact Nat.ne_of_lt (blk_lt O2.out)⟩); have ac0 : w3.cell? ⟨ga, 0, none⟩ = some (.int .i64 0) := (blk_cell A3.out 0).trans rfl; have af0 := blk_frozen A3.out 0; have ac1 : w3.cell? ⟨ga, 1, none⟩ = some (.string (⟨#[]⟩ : ByteArray)) := (blk_cell A3.out 1).trans rfl; have af1 := blk_frozen A3.out 1; have ac2 : w3.cell? ⟨ga, 2, none⟩ = some (.string (⟨#[]⟩ : ByteArray)) := (blk_cell A3.out 2).trans rfl; have af2 := blk_frozen A3.out 2; have ac3 : w3.cell? ⟨ga, 3, none⟩ = some (.bool false) := (blk_cell A3.out 3).trans rfl; have af3 := blk_frozen A3.out 3; have ac4 : w3.cell? ⟨ga, 4, none⟩ = some (.bool false) := (blk_cell A3.out 4).trans rfl; have af4 := blk_frozen A3.out 4; have ac5 : w3.cell? ⟨ga, 5, none⟩ = some (.int .i64 0) := (blk_cell A3.out 5).trans rfl; have af5 := blk_frozen A3.out 5; have oc0 : w3.cell? ⟨go, 0, none⟩ = some (.int .i64 kind) := (blk_cell O3.out 0).trans rfl; have of0 := blk_frozen O3.out 0; have oc1 : w3.cell? ⟨go, 1, none⟩ = some (.int .i64 n) := (blk_cell O3.out 1).trans rfl; have of1 := blk_frozen O3.out 1; have oc2 : w3.cell? ⟨go, 2, none⟩ = some (.slice A x.length c) := (blk_cell O3.out 2).trans rfl; have of2 := blk_frozen O3.out 2; have oc3 : w3.cell? ⟨go, 3, none⟩ = some (.int .u8 turn) := (blk_cell O3.out 3).trans rfl; have of3 := blk_frozen O3.out 3; have hcv := Kd.C_string (P := Try.prog) (c := c) Try.underlying22 Try.underlying5 Try.underlying9 (HXP.out w3 K3.out); clear hb hg hbox))
    clear hcv ac0 af0 ac1 af1 ac2 af2 ac3 af3 ac4 af4 ac5 af5 oc0 of0 oc1 of1 oc2 of2 oc3 of3
    refine (d_Up D3.out HO.out).mono ?_; rintro e w4 ⟨rfl, hD, hK, hB⟩
    have Z4 := Aside0.mk (Z3.out.trans hB); have K4 := Aside0.mk (K3.out.then_ hK (fun k hk => .inl hk.1)); have D4 := Aside0.mk hD; have A4 := Aside0.mk (blk_kp A3.out hK (fun q => absurd q.2 (by rw [GA.out]; exact Nat.lt_irrefl _))); have O4 := Aside0.mk (blk_kp O3.out hK (fun q => absurd q.2 (Nat.not_lt.mpr GO.out.1))); have C4 := Aside0.mk (blk_kp C3.out hK (fun q => absurd q.2 (Nat.not_lt.mpr GB.out.1)))
    clear hD hK hB
    have bc0 : w4.cell? ⟨ga, 0, none⟩ = some (.int .i64 0) := (blk_cell A4.out 0).trans rfl
    have bf0 := blk_frozen A4.out 0
    have bc1 : w4.cell? ⟨ga, 1, none⟩ = some (.string (⟨#[]⟩ : ByteArray)) := (blk_cell A4.out 1).trans rfl
    have bf1 := blk_frozen A4.out 1
    have bc2 : w4.cell? ⟨ga, 2, none⟩ = some (.string (⟨#[]⟩ : ByteArray)) := (blk_cell A4.out 2).trans rfl
    have bf2 := blk_frozen A4.out 2
    have bc3 : w4.cell? ⟨ga, 3, none⟩ = some (.bool false) := (blk_cell A4.out 3).trans rfl
    have bf3 := blk_frozen A4.out 3
    have bc4 : w4.cell? ⟨ga, 4, none⟩ = some (.bool false) := (blk_cell A4.out 4).trans rfl
    have bf4 := blk_frozen A4.out 4
    have bc5 : w4.cell? ⟨ga, 5, none⟩ = some (.int .i64 0) := (blk_cell A4.out 5).trans rfl
    have bf5 := blk_frozen A4.out 5
    go_wp2_with fail
    refine (ref06_Up0 w4).mono ?_; rintro e w5 ⟨rfl, hb⟩
    have Z5 := Aside0.mk (Z4.out.trans (below0 hb))
    have K5 := Aside0.mk (K4.out.then_ (Kept.of_below hb (fun _ => False)) (fun _ q => q.elim))
    have D5 := Aside0.mk (D4.out.below hb)
    have A5 := Aside0.mk (blk_below A4.out hb)
    have O5 := Aside0.mk (blk_below O4.out hb)
    have C5 := Aside0.mk (blk_below C4.out hb)
    clear hb bc0 bf0 bc1 bf1 bc2 bf2 bc3 bf3 bc4 bf4 bc5 bf5
    have bc0 : w5.cell? ⟨ga, 0, none⟩ = some (.int .i64 0) := (blk_cell A5.out 0).trans rfl
    have bf0 := blk_frozen A5.out 0
    have bc1 : w5.cell? ⟨ga, 1, none⟩ = some (.string (⟨#[]⟩ : ByteArray)) := (blk_cell A5.out 1).trans rfl
    have bf1 := blk_frozen A5.out 1
    have bc2 : w5.cell? ⟨ga, 2, none⟩ = some (.string (⟨#[]⟩ : ByteArray)) := (blk_cell A5.out 2).trans rfl
    have bf2 := blk_frozen A5.out 2
    have bc3 : w5.cell? ⟨ga, 3, none⟩ = some (.bool false) := (blk_cell A5.out 3).trans rfl
    have bf3 := blk_frozen A5.out 3
    have bc4 : w5.cell? ⟨ga, 4, none⟩ = some (.bool false) := (blk_cell A5.out 4).trans rfl
    have bf4 := blk_frozen A5.out 4
    have bc5 : w5.cell? ⟨ga, 5, none⟩ = some (.int .i64 0) := (blk_cell A5.out 5).trans rfl
    have bf5 := blk_frozen A5.out 5
    go_wp2_with (first | ((with_reducible refine gate_dst (N := 95) rfl ?_); have Z6 := Aside0.mk (set6_below (B := 0) (g := ga) Z5.out (Nat.zero_le _) (.int .i64 0) (.string (⟨#[]⟩ : ByteArray)) (.string (⟨#[]⟩ : ByteArray)) (.bool false) (.bool false) (.int .i64 0)); have K6 := Aside0.mk (K5.out.then_ (set6_kept w5 ga (.int .i64 0) (.string (⟨#[]⟩ : ByteArray)) (.string (⟨#[]⟩ : ByteArray)) (.bool false) (.bool false) (.int .i64 0)) (fun k hk => .inl (by rw [hk, GA.out]; exact HN.out))); have D6 := Aside0.mk (D5.out.kept (set6_kept w5 ga (.int .i64 0) (.string (⟨#[]⟩ : ByteArray)) (.string (⟨#[]⟩ : ByteArray)) (.bool false) (.bool false) (.int .i64 0)) (fun k hk e => by subst e; exact hk.elim (fun q => absurd q.2 (by rw [GA.out]; exact Nat.lt_irrefl _)) (fun q => absurd (blk_lt A3.out) (Nat.not_lt.mpr q)))); have O6 := Aside0.mk (blk_kp O5.out (set6_kept w5 ga (.int .i64 0) (.string (⟨#[]⟩ : ByteArray)) (.string (⟨#[]⟩ : ByteArray)) (.bool false) (.bool false) (.int .i64 0)) (fun e => GO.out.2 e.symm)); have C6 := Aside0.mk (blk_kp C5.out (set6_kept w5 ga (.int .i64 0) (.string (⟨#[]⟩ : ByteArray)) (.string (⟨#[]⟩ : ByteArray)) (.bool false) (.bool false) (.int .i64 0)) (fun e => GB.out.2.1 e.symm)); have A6 := Aside0.mk (set6_blk A5.out (.int .i64 0) (.string (⟨#[]⟩ : ByteArray)) (.string (⟨#[]⟩ : ByteArray)) (.bool false) (.bool false) (.int .i64 0)); clear Z5 K5 D5 A5 O5 C5 bc0 bf0 bc1 bf1 bc2 bf2 bc3 bf3 bc4 bf4 bc5 bf5; unfold set6 at Z6 K6 D6 A6 O6 C6; generalize (((((w5.setCell ⟨ga, 0, none⟩ (.int .i64 0)).setCell ⟨ga, 1, none⟩ (.string (⟨#[]⟩ : ByteArray))).setCell ⟨ga, 2, none⟩ (.string (⟨#[]⟩ : ByteArray))).setCell ⟨ga, 3, none⟩ (.bool false)).setCell ⟨ga, 4, none⟩ (.bool false)).setCell ⟨ga, 5, none⟩ (.int .i64 0) = w6 at Z6 K6 D6 A6 O6 C6 ⊢; have bc0 : w6.cell? ⟨ga, 0, none⟩ = some (.int .i64 0) := (blk_cell A6.out 0).trans rfl; have bf0 := blk_frozen A6.out 0; have bc1 : w6.cell? ⟨ga, 1, none⟩ = some (.string (⟨#[]⟩ : ByteArray)) := (blk_cell A6.out 1).trans rfl; have bf1 := blk_frozen A6.out 1; have bc2 : w6.cell? ⟨ga, 2, none⟩ = some (.string (⟨#[]⟩ : ByteArray)) := (blk_cell A6.out 2).trans rfl; have bf2 := blk_frozen A6.out 2; have bc3 : w6.cell? ⟨ga, 3, none⟩ = some (.bool false) := (blk_cell A6.out 3).trans rfl; have bf3 := blk_frozen A6.out 3; have bc4 : w6.cell? ⟨ga, 4, none⟩ = some (.bool false) := (blk_cell A6.out 4).trans rfl; have bf4 := blk_frozen A6.out 4; have bc5 : w6.cell? ⟨ga, 5, none⟩ = some (.int .i64 0) := (blk_cell A6.out 5).trans rfl; have bf5 := blk_frozen A6.out 5; have sc0 : w6.cell? ⟨gb, 0, none⟩ = some (.int .i64 0) := (blk_cell C6.out 0).trans rfl; have sf0 := blk_frozen C6.out 0; have sc1 : w6.cell? ⟨gb, 1, none⟩ = some (.string (⟨#[]⟩ : ByteArray)) := (blk_cell C6.out 1).trans rfl; have sf1 := blk_frozen C6.out 1; have sc2 : w6.cell? ⟨gb, 2, none⟩ = some (.string (⟨#[]⟩ : ByteArray)) := (blk_cell C6.out 2).trans rfl; have sf2 := blk_frozen C6.out 2; have sc3 : w6.cell? ⟨gb, 3, none⟩ = some (.bool false) := (blk_cell C6.out 3).trans rfl; have sf3 := blk_frozen C6.out 3; have sc4 : w6.cell? ⟨gb, 4, none⟩ = some (.bool false) := (blk_cell C6.out 4).trans rfl; have sf4 := blk_frozen C6.out 4; have sc5 : w6.cell? ⟨gb, 5, none⟩ = some (.int .i64 0) := (blk_cell C6.out 5).trans rfl; have sf5 := blk_frozen C6.out 5))
    refine bodyPost_ret (results_ct rfl _ _ gb 41 #[.int .i64 0, .string (⟨#[]⟩ : ByteArray), .string (⟨#[]⟩ : ByteArray), .bool false, .bool false, .int .i64 0] (0, 0) _ rfl (set6_blk C6.out (.int .i64 0) (.string (⟨#[]⟩ : ByteArray)) (.string (⟨#[]⟩ : ByteArray)) (.bool false) (.bool false) (.int .i64 0)) Try.underlying41 rfl (by kernel_rfl)) rfl ?_
    rw [HDO.out]
    have F := FIN.out _ _ _ (set6_below (B := 0) (g := gb) Z6.out (Nat.zero_le _) (.int .i64 0) (.string (⟨#[]⟩ : ByteArray)) (.string (⟨#[]⟩ : ByteArray)) (.bool false) (.bool false) (.int .i64 0)) (K6.out.then_ (set6_kept w6 gb (.int .i64 0) (.string (⟨#[]⟩ : ByteArray)) (.string (⟨#[]⟩ : ByteArray)) (.bool false) (.bool false) (.int .i64 0)) (fun k hk => .inl (by subst hk; exact Nat.le_trans HN.out GB.out.1))) (D6.out.kept (set6_kept w6 gb (.int .i64 0) (.string (⟨#[]⟩ : ByteArray)) (.string (⟨#[]⟩ : ByteArray)) (.bool false) (.bool false) (.int .i64 0)) (fun k hk e => by subst e; exact hk.elim (fun q => absurd q.2 (Nat.not_lt.mpr GB.out.1)) (fun q => absurd (blk_lt C3.out) (Nat.not_lt.mpr q)))) (fun k hk => hk.elim (fun q => q.1) (fun q => Nat.le_trans HN.out (Nat.le_trans Z3.out.size q)))
    exact ⟨⟨_, rfl⟩, F.1, F.2⟩
  have t5 : (kind == 5) = false := beq_eq_false_iff_ne.mpr h5
  have HDO := Aside0.mk (show d.doing kind n x turn = d by unfold DS.doing; rw [if_neg h0, if_neg h2, if_neg h3, if_neg h4, if_neg h5])
  clear h0 h2 h3 h4 h5
  go_enter Try.func23, Try.ntmps23
  go_wp2_with (first | ((with_reducible refine gate_dst (N := 4) rfl ?_); refine box_event ?hg (N := 4) ?hd (cs := #[.int .i64 0, .string (⟨#[]⟩ : ByteArray), .string (⟨#[]⟩ : ByteArray), .bool false, .bool false, .int .i64 0]) (t := 41) ?hr ?_; (case hd => rfl); (case hg => rfl); (case hr => first | (go_simp; done) | (go_simp; rfl)); intro ga hg w1 hbox hb; have Z1 := Aside0.mk (below0 hb); have K1 := Aside0.mk (Kept.of_below hb (fun k => N ≤ k)); have D1 := Aside0.mk (D0.out.below hb); have A1 := Aside0.mk hbox; have GA := Aside0.mk hg; clear hb hg hbox) | ((with_reducible refine gate_dst (N := 5) rfl ?_); refine box_event ?hg (N := 5) ?hd (cs := #[.int .i64 kind, .int .i64 n, .slice A x.length c, .int .u8 turn]) (t := 38) ?hr ?_; (case hd => rfl); (case hg => rfl); (case hr => first | (go_simp; done) | (go_simp; rfl)); intro go hg w2 hbox hb; have Z2 := Aside0.mk (Z1.out.trans (below0 hb)); have K2 := Aside0.mk (K1.out.then_ (Kept.of_below hb (fun _ => False)) (fun _ q => q.elim)); have D2 := Aside0.mk (D1.out.below hb); have A2 := Aside0.mk (blk_below A1.out hb); have O2 := Aside0.mk hbox; have GO := Aside0.mk (show w.heap.size ≤ go ∧ ga ≠ go from ⟨by rw [hg]; exact Z1.out.size, by rw [hg]; exact Nat.ne_of_lt (blk_lt A1.out)⟩); clear hb hg hbox) | ((with_reducible refine gate_dst (N := 6) rfl ?_); refine box_event ?hg (N := 6) ?hd (cs := #[.int .i64 0, .string (⟨#[]⟩ : ByteArray), .string (⟨#[]⟩ : ByteArray), .bool false, .bool false, .int .i64 0]) (t := 41) ?hr ?_; (case hd => rfl); (case hg => rfl); (case hr => first | (go_simp; done) | (go_simp; rfl)); intro gb hg w3 hbox hb; have Z3 := Aside0.mk (Z2.out.trans (below0 hb)); have K3 := Aside0.mk (K2.out.then_ (Kept.of_below hb (fun _ => False)) (fun _ q => q.elim)); have D3 := Aside0.mk (D2.out.below hb); have A3 := Aside0.mk (blk_below A2.out hb); have O3 := Aside0.mk (blk_below O2.out hb); have C3 := Aside0.mk hbox; have GB := Aside0.mk (show w.heap.size ≤ gb ∧ ga ≠ gb ∧ go ≠ gb from ⟨by rw [hg]; exact Z2.out.size, by rw [hg]; exact Nat.ne_of_lt (blk_lt A2.out), by rw [hg]; exact Nat.ne_of_lt (blk_lt O2.out)⟩); have ac0 : w3.cell? ⟨ga, 0, none⟩ = some (.int .i64 0) := (blk_cell A3.out 0).trans rfl; have af0 := blk_frozen A3.out 0; have ac1 : w3.cell? ⟨ga, 1, none⟩ = some (.string (⟨#[]⟩ : ByteArray)) := (blk_cell A3.out 1).trans rfl; have af1 := blk_frozen A3.out 1; have ac2 : w3.cell? ⟨ga, 2, none⟩ = some (.string (⟨#[]⟩ : ByteArray)) := (blk_cell A3.out 2).trans rfl; have af2 := blk_frozen A3.out 2; have ac3 : w3.cell? ⟨ga, 3, none⟩ = some (.bool false) := (blk_cell A3.out 3).trans rfl; have af3 := blk_frozen A3.out 3; have ac4 : w3.cell? ⟨ga, 4, none⟩ = some (.bool false) := (blk_cell A3.out 4).trans rfl; have af4 := blk_frozen A3.out 4; have ac5 : w3.cell? ⟨ga, 5, none⟩ = some (.int .i64 0) := (blk_cell A3.out 5).trans rfl; have af5 := blk_frozen A3.out 5; have oc0 : w3.cell? ⟨go, 0, none⟩ = some (.int .i64 kind) := (blk_cell O3.out 0).trans rfl; have of0 := blk_frozen O3.out 0; have oc1 : w3.cell? ⟨go, 1, none⟩ = some (.int .i64 n) := (blk_cell O3.out 1).trans rfl; have of1 := blk_frozen O3.out 1; have oc2 : w3.cell? ⟨go, 2, none⟩ = some (.slice A x.length c) := (blk_cell O3.out 2).trans rfl; have of2 := blk_frozen O3.out 2; have oc3 : w3.cell? ⟨go, 3, none⟩ = some (.int .u8 turn) := (blk_cell O3.out 3).trans rfl; have of3 := blk_frozen O3.out 3; have hcv := Kd.C_string (P := Try.prog) (c := c) Try.underlying22 Try.underlying5 Try.underlying9 (HXP.out w3 K3.out); clear hb hg hbox; have sc0 : w3.cell? ⟨gb, 0, none⟩ = some (.int .i64 0) := (blk_cell C3.out 0).trans rfl; have sf0 := blk_frozen C3.out 0; have sc1 : w3.cell? ⟨gb, 1, none⟩ = some (.string (⟨#[]⟩ : ByteArray)) := (blk_cell C3.out 1).trans rfl; have sf1 := blk_frozen C3.out 1; have sc2 : w3.cell? ⟨gb, 2, none⟩ = some (.string (⟨#[]⟩ : ByteArray)) := (blk_cell C3.out 2).trans rfl; have sf2 := blk_frozen C3.out 2; have sc3 : w3.cell? ⟨gb, 3, none⟩ = some (.bool false) := (blk_cell C3.out 3).trans rfl; have sf3 := blk_frozen C3.out 3; have sc4 : w3.cell? ⟨gb, 4, none⟩ = some (.bool false) := (blk_cell C3.out 4).trans rfl; have sf4 := blk_frozen C3.out 4; have sc5 : w3.cell? ⟨gb, 5, none⟩ = some (.int .i64 0) := (blk_cell C3.out 5).trans rfl; have sf5 := blk_frozen C3.out 5))
  refine bodyPost_ret (results_ct rfl _ _ gb 41 #[.int .i64 0, .string (⟨#[]⟩ : ByteArray), .string (⟨#[]⟩ : ByteArray), .bool false, .bool false, .int .i64 0] (0, 0) _ rfl (set6_blk C3.out (.int .i64 0) (.string (⟨#[]⟩ : ByteArray)) (.string (⟨#[]⟩ : ByteArray)) (.bool false) (.bool false) (.int .i64 0)) Try.underlying41 rfl (by kernel_rfl)) rfl ?_
  rw [HDO.out]
  have F := FIN.out _ _ _ (set6_below (B := 0) (g := gb) Z3.out (Nat.zero_le _) (.int .i64 0) (.string (⟨#[]⟩ : ByteArray)) (.string (⟨#[]⟩ : ByteArray)) (.bool false) (.bool false) (.int .i64 0)) (K3.out.then_ (set6_kept w3 gb (.int .i64 0) (.string (⟨#[]⟩ : ByteArray)) (.string (⟨#[]⟩ : ByteArray)) (.bool false) (.bool false) (.int .i64 0)) (fun k hk => .inl (by subst hk; exact Nat.le_trans HN.out GB.out.1))) (D3.out.kept (set6_kept w3 gb (.int .i64 0) (.string (⟨#[]⟩ : ByteArray)) (.string (⟨#[]⟩ : ByteArray)) (.bool false) (.bool false) (.int .i64 0)) (fun k hk e => by subst e; exact absurd hk.2 (Nat.not_lt.mpr GB.out.1))) (fun k hk => hk.1)
  exact ⟨⟨_, rfl⟩, F.1, F.2⟩
end Go.Proofs.Ythpdmjpimeibnaa.M
