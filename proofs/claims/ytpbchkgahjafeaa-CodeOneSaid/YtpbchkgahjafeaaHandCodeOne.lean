/-
  CodeOne, walked by hand: whatever is read as a number is written in the same bytes.
-/
import Derived.Test.YtpbchkgahjafeaaOBytes
import Derived.Test.YtpbchkgahjafeaaPCode3
namespace Go.Proofs.Ytpbchkgahjafeaa.Pure
open Go.RowKit Go.Proofs.Ytpbchkgahjafeaa.M Go.Proofs.YtpbchkgahjafeaaW.PrintWords Go.Proofs.YtpbchkgahjafeaaW.PrintLast Go.Proofs.YtpbchkgahjafeaaW.PrintMore Go.Proofs.Ytpbchkgahjafeaa.Pure.Code Go.Proofs.Ytpbchkgahjafeaa.Pure.Bits
set_option linter.unusedVariables false
set_option linter.unusedSimpArgs false
theorem scan_le : ∀ (s : List Int) (i u : Nat), (scan s i u).1 ≤ s.length := by
  intro s
  induction s with
  | nil => intro i u; simp [scan]
  | cons x s ih =>
    intro i u
    simp only [scan, List.length_cons]
    split
    · simp
    · split
      · simp
      · have := ih (i + 1) (u + (x % 128).toNat * 128 ^ i)
        simp only
        omega
theorem rdNum_le (l : List Int) : (rdNum l 0).2.1 ≤ l.length := by
  unfold rdNum
  have := scan_le (l.drop 0) 0 0
  rw [List.drop_zero] at this
  simp only [List.drop_zero]
  omega
theorem zig_unzig (q : Nat) : zig (unzig q) = q := by
  unfold unzig zig
  split <;> split <;> omega
theorem I64_unzig {q : Nat} (h : q < 2 ^ 64) : I64 (unzig q) := by
  unfold unzig I64
  split <;> omega
theorem rdNum_one {l : List Int} (hb : Bytes l) (h : (rdNum l 0).2.2 = 0) : I64 (rdNum l 0).1 ∧ enc (rdNum l 0).1 = l.take (rdNum l 0).2.1 := by
  unfold rdNum at h ⊢
  rw [List.drop_zero] at h ⊢
  simp only at h ⊢
  obtain ⟨q, h1, h2, h3, h4, h5⟩ := scan_one l 0 0 hb (by omega) (by omega) h
  rw [if_pos h]
  rw [show (scan l 0 0).2.2 = q by omega] at h4 ⊢
  refine ⟨I64_unzig h4, ?_⟩
  unfold enc
  rw [zig_unzig, Nat.zero_add, h2]
set_option maxHeartbeats 4000000 in
set_option maxRecDepth 100000 in
theorem CodeOne_hand (A0 : Option Addr) (c0 : Nat) (l : List Int) (w : World) (hr : Kd.C (Kd.int .u8) w A0 l.length l) (hc : l.length ≤ c0) (g1 : l.length * 1 ≤ 140737488351232 ∧ ∀ x ∈ l, (Lit.int .u8 x).wf = true) :
    Calls Try.prog 4 #[.slice A0 l.length c0] w fun e w' => e = .returned (.bool true) ∧ Below w.heap.size w w' := by
  have BB : Bytes l := fun x hx => by have := g1.2 x hx; simp [Lit.wf, IntKind.min, IntKind.max, IntKind.signed, IntKind.bits] at this; omega
  obtain ⟨k1, h1⟩ := writes_ev.rounds
  have HB := Aside0.mk (Below.refl w.heap.size w)
  have H1 := Aside0.mk h1; clear h1
  have HR := Aside0.mk hr; have HC := Aside0.mk hc; clear hr hc
  by_cases hlen : l.length > 100
  · have c0_ : decide (100 < (l.length : Int)) = true := decide_eq_true (by omega)
    have c1_ : decide ((l.length : Int) > 100) = true := decide_eq_true (by omega)
    clear g1
    go_enter Try.func4, Try.ntmps4
    go_wp2_with (first | (go_at_call 10; refine (contralaw04_writes.calls k1 true _ H1.out).mono ?_; rintro e w1 ⟨rfl, hb⟩; have B1 := Aside0.mk (below_step HB.out hb); clear hb))
    go_ret
    exact ⟨rfl, B1.out⟩
  · have c0_ : decide (100 < (l.length : Int)) = false := decide_eq_false (by omega)
    have c1_ : decide ((l.length : Int) > 100) = false := decide_eq_false (by omega)
    have hlen' : l.length ≤ 100 := by omega
    clear hlen g1
    have hle := rdNum_le l
    obtain ⟨k3, h3⟩ := (rd_num_ev (l := l) (by omega) BB (a := 0) (Nat.zero_le _)).rounds
    have hone := rdNum_one (l := l) BB
    have hbad := rdNum_bad (l := l) (a := 0)
    obtain ⟨n, a, e, he⟩ : ∃ n a e, rdNum l 0 = (n, a, e) := ⟨_, _, _, rfl⟩
    rw [he] at h3 hone hbad hle
    dsimp only at h3 hone hbad hle
    rw [show ((0 : Nat) : Int) = 0 from rfl] at h3
    have H3 := Aside0.mk h3; clear h3 he BB
    by_cases e0 : e = 0
    · subst e0
      obtain ⟨hn, hen⟩ := hone rfl
      clear hbad hone
      obtain ⟨k2, h2⟩ := (num_ev [] n hn (by simp)).rounds
      rw [List.nil_append, hen] at h2
      have H2 := Aside0.mk h2; clear h2 hn hen
      have HE1 := Aside0.mk (show code_Reader_Err.f l (a : Int) 0 = some (0, (a : Int), 0) from rfl)
      have HE2 := Aside0.mk (left_f l a 0 hle (by omega))
      have b2 : wrap64 ((l.length : Int) - ((l.length - a : Nat) : Int)) = (a : Int) := by unfold wrap64; omega
      have hT := Aside0.mk (show (l.take a).length = a by rw [List.length_take]; omega)
      have ha := Aside0.mk hle
      have hl := Aside0.mk hlen'
      obtain ⟨i0, hi0, _, hsz0, _⟩ := info_parts info5
      obtain ⟨hcut_, hcr, hcl⟩ := print_take_int (P := Try.prog) (k := .u8) 22 5 Try.underlying22 hi0 hsz0 A0 c0 l (a : Int) (by omega) (by omega) HC.out
      have hT2 : (l.take ((a : Int)).toNat).length = a := by rw [Int.toNat_natCast]; exact hT.out
      have hcut : ∀ (W : World), Sem.run Try.prog (Instr.slice 22 (Value.slice A0 l.length c0) none (some (Value.int IntKind.i64 (a : Int))) none) W = Result.ok (Value.slice A0 a c0) W := fun W => by
        have := hcut_ W
        rwa [hT2] at this
      have HRt := Kd.C_of_reads (h1 := fun _ => rfl) (hcr _ (Kd.reads_of_C HR.out))
      rw [hT2, Int.toNat_natCast] at HRt
      have HRt : Aside0 (Kd.C (Kd.int .u8) w A0 a (l.take a)) := Aside0.mk HRt
      clear hlen' hle hcut_ hcr hcl hT2 hi0 hsz0
      go_enter Try.func4, Try.ntmps4
      go_wp2_with fail
      refine (contralaw04_writes.calls k1 true _ H1.out).mono ?_; rintro e w1 ⟨rfl, hb⟩; have B1 := Aside0.mk (below_step HB.out hb); clear hb
      go_wp2_with fail
      refine (code_Read.callsm rfl (Kd.C_below HR.out B1.out) HC.out (by have := hl.out; omega)).mono ?_; rintro e w3 ⟨g, rfl, hg, hR, hb⟩; have B3 := Aside0.mk (below_step B1.out hb); have R3 := Aside0.mk hR; have G3 := Aside0.mk (Nat.le_trans B1.out.size hg); clear hg hR hb
      go_wp2_with fail
      refine (rd_Num R3.out H3.out).mono ?_; rintro e w4 ⟨rfl, hR, hb, hk⟩; have B4 := Aside0.mk (B3.out.trans (hb.mono G3.out)); have R4 := Aside0.mk hR; clear hR hb hk
      go_wp2_with fail
      refine (rd_Err R4.out HE1.out).mono ?_; rintro e w5 ⟨rfl, hR, hb, hk⟩; have B5 := Aside0.mk (B4.out.trans (hb.mono G3.out)); have R5 := Aside0.mk hR; clear hR hb hk B4 R4
      go_wp2_with fail
--REG9
      refine start_ (n := 13) (S := fun w' => (convert 22 9 (.slice A0 a c0)).run Try.prog w' = .ok (.string (strOfNums (l.take a))) w') (ds := []) #[false, false, false, false, false, false, false, false, false, false, false, false, false] (by kernel_rfl) rfl rfl ((Kd.C_string (P := Try.prog) (c := c0) Try.underlying22 Try.underlying5 Try.underlying9 (Kd.C_below HRt.out (below_step B5.out (below_drew (Below.refl _ _)))))) (fun hHeld => ?_)
      refine pure_ (i := 0) (N := some 26) (v := ?_) (a' := ?_) #[true, false, false, false, false, false, false, false, false, false, false, false, false] rfl rfl (by kernel_rfl) (fun _ _ _ h => h) (Or.inl ⟨by rfl, ?_⟩) ?_ ?_
      rotate_left
      · intro w'
        go_simp
        with_reducible rfl
      rotate_left
      · simp only [Act.put, List.setIfInBounds_toArray, List.set_cons_zero, List.set_cons_succ, i64_w, i32_w]
        rfl
      refine pure_ (i := 3) (N := some 29) (v := ?_) (a' := ?_) #[true, false, false, true, false, false, false, false, false, false, false, false, false] rfl rfl (by kernel_rfl) (fun _ _ _ h => h) (Or.inl ⟨by rfl, ?_⟩) ?_ ?_
      rotate_left
      · intro w'
        go_simp
        with_reducible rfl
      rotate_left
      · simp only [Act.put, List.setIfInBounds_toArray, List.set_cons_zero, List.set_cons_succ, i64_w, i32_w]
        rfl
      refine pure_ (i := 4) (N := some 30) (v := ?_) (a' := ?_) #[true, false, false, true, true, false, false, false, false, false, false, false, false] rfl rfl (by kernel_rfl) (fun _ _ _ h => h) (Or.inl ⟨by rfl, ?_⟩) ?_ ?_
      rotate_left
      · intro w'
        go_simp
        with_reducible rfl
      rotate_left
      · simp only [Act.put, List.setIfInBounds_toArray, List.set_cons_zero, List.set_cons_succ, i64_w, i32_w]
        rfl
      refine pure_ (i := 5) (N := some 31) (v := ?_) (a' := ?_) #[true, false, false, true, true, true, false, false, false, false, false, false, false] rfl rfl (by kernel_rfl) (fun _ _ _ h => h) (Or.inl ⟨by rfl, ?_⟩) ?_ ?_
      rotate_left
      · intro w'
        go_simp
        with_reducible rfl
      rotate_left
      · simp only [Act.put, List.setIfInBounds_toArray, List.set_cons_zero, List.set_cons_succ, i64_w, i32_w]
        rfl
      refine pure_ (i := 6) (N := some 32) (v := ?_) (a' := ?_) #[true, false, false, true, true, true, true, false, false, false, false, false, false] rfl rfl (by kernel_rfl) (fun _ _ _ h => h) (Or.inl ⟨by rfl, ?_⟩) ?_ ?_
      rotate_left
      · intro w'
        go_simp
        with_reducible rfl
      rotate_left
      · simp only [Act.put, List.setIfInBounds_toArray, List.set_cons_zero, List.set_cons_succ, i64_w, i32_w]
        rfl
      refine one_ (i := 1) (N := some 27) #[true, true, false, true, true, true, true, false, false, false, false, false, false] rfl rfl (by kernel_rfl) (by decide) (fun K hK => ?_)
      refine goes_ Try.func11 (by kernel_rfl) rfl #[.slice none 0 0, .int .i64 n] (by rfl) rfl rfl (by simp only [List.map_toArray, List.map_cons, List.map_nil]; rfl) ?_
      with_reducible refine (code_Num.calls k2 (fun _ => False) (.slice none 0 0) [] n (l.take a) w w5.drew (below_step B5.out (below_drew (Below.refl _ _))) (Kd.R_nil _ _ _ _ _) H2.out).mono ?_
      rintro e w6 ⟨v6, rfl, ho, hb, hkp⟩
      refine ⟨_, rfl, ?_⟩
      have B6 := Aside0.mk hb
      have O6 := Aside0.mk ho
      have R6 := Aside0.mk ((R5.out.below (below_drew (Below.refl _ _))).kept hkp (fun _ q => q.elim))
      have L6 := Aside0.mk (show g < w5.drew.heap.size from (R5.out.below (below_drew (Below.refl _ _))).lt)
      have hcv := own_string (P := Try.prog) Try.underlying22 Try.underlying5 Try.underlying9 (Kd.own_of_R ho)
      clear hb ho hkp
      refine hK.out _ _ ((Kd.C_string (P := Try.prog) (c := c0) Try.underlying22 Try.underlying5 Try.underlying9 (Kd.C_below HRt.out (B6.out)))) (fun hHeld => ?_)
      clear hK K
      refine norm_ (a' := ?_) ?_ ?_
      rotate_left
      · show Act.put _ (some 27) _ = _
        simp only [Act.put, List.setIfInBounds_toArray, List.set_cons_zero, List.set_cons_succ, i64_w, i32_w]
        rfl
      refine join_ (σ := Unit) 2 #[true, true, true, true, true, true, true, true, true, true, true, false, false] (fun _ => [(28, .string (strOfNums (l.take a))), (33, .int .i64 ((l.length - a : Nat) : Int)), (34, .int .i64 (wrap64 ((l.length : Int) - ((l.length - a : Nat) : Int)))), (35, .slice A0 a c0), (36, .string (strOfNums (l.take a)))]) (fun _ w' => Below w.heap.size w w') ?_ ?_
      rotate_left
      · intro hCont
        refine two_ (i := 2) (j := 7) (Ni := some 28) (Nj := some 33) #[true, true, true, true, true, true, true, false, false, false, false, false, false] #[true, true, false, true, true, true, true, true, false, false, false, false, false] rfl rfl rfl rfl (by kernel_rfl) (by decide) (by decide) (fun K hK => ?_) (fun K hK => ?_)
        · skip
          refine value_ (w1 := ?_) (v := ?_) (by rfl) rfl ?_ ?_
          rotate_left 2
          · go_simp
            constructor
            · rfl
            · rfl
          refine hK.out _ _ ((Kd.C_string (P := Try.prog) (c := c0) Try.underlying22 Try.underlying5 Try.underlying9 (Kd.C_below HRt.out (B6.out)))) (fun hHeld => ?_)
          clear hK K
          refine norm_ (a' := ?_) ?_ ?_
          rotate_left
          · show Act.put _ (some 28) _ = _
            simp only [Act.put, List.setIfInBounds_toArray, List.set_cons_zero, List.set_cons_succ, i64_w, i32_w]
            rfl
          refine one_ (i := 7) (N := some 33) #[true, true, true, true, true, true, true, true, false, false, false, false, false] rfl rfl (by kernel_rfl) (by decide) (fun K hK => ?_)
          refine goes_ Try.func16 (by kernel_rfl) rfl #[.pointer (some ⟨g, 0, none⟩)] (by rfl) rfl rfl (by simp only [List.map_toArray, List.map_cons, List.map_nil]; rfl) ?_
          with_reducible refine (rd_Left R6.out HE2.out).mono ?_
          rintro e w8 ⟨rfl, hR, hb, hk⟩
          refine ⟨_, rfl, ?_⟩
          have B8 := Aside0.mk (B6.out.trans (hb.mono G3.out))
          have hcv8 := own_string (P := Try.prog) Try.underlying22 Try.underlying5 Try.underlying9 (Kd.own_of_R (Kd.R_keep O6.out hk (fun k hk => hk.elim False.elim (fun h => Nat.ne_of_gt (Nat.lt_of_lt_of_le L6.out h)))))
          clear hR hb hk
          refine hK.out _ _ ((Kd.C_string (P := Try.prog) (c := c0) Try.underlying22 Try.underlying5 Try.underlying9 (Kd.C_below HRt.out (B8.out)))) (fun hHeld => ?_)
          clear hK K
          refine norm_ (a' := ?_) ?_ ?_
          rotate_left
          · show Act.put _ (some 33) _ = _
            simp only [Act.put, List.setIfInBounds_toArray, List.set_cons_zero, List.set_cons_succ, i64_w, i32_w]
            rfl
          refine pure_ (i := 8) (N := some 34) (v := ?_) (a' := ?_) #[true, true, true, true, true, true, true, true, true, false, false, false, false] rfl rfl (by kernel_rfl) (fun _ _ _ h => h) (Or.inl ⟨by rfl, ?_⟩) ?_ ?_
          rotate_left
          · intro w'
            go_simp
            with_reducible rfl
          rotate_left
          · simp only [Act.put, List.setIfInBounds_toArray, List.set_cons_zero, List.set_cons_succ, i64_w, i32_w]
            rfl
          refine pure_ (i := 9) (N := some 35) (v := ?_) (a' := ?_) #[true, true, true, true, true, true, true, true, true, true, false, false, false] rfl rfl (by kernel_rfl) (fun _ _ _ h => h) (Or.inl ⟨by rfl, ?_⟩) ?_ ?_
          rotate_left
          · intro w'
            go_simp
            with_reducible rfl
          rotate_left
          · simp only [Act.put, List.setIfInBounds_toArray, List.set_cons_zero, List.set_cons_succ, i64_w, i32_w]
            rfl
          refine take_ (i := 10) (N := some 36) (v := ?_) (a' := ?_) #[true, true, true, true, true, true, true, true, true, true, true, false, false] rfl rfl (by kernel_rfl) (fun _ _ _ h => h) (Or.inl ⟨by rfl, ?_⟩) hHeld ?_ ?_
          rotate_left
          · intro w' s0
            go_simp
            with_reducible rfl
          rotate_left
          · simp only [Act.put, List.setIfInBounds_toArray, List.set_cons_zero, List.set_cons_succ, i64_w, i32_w]
            rfl
          exact norm_ (by simp only [putAll, Act.put, List.setIfInBounds_toArray, List.set_cons_zero, List.set_cons_succ]) (hCont () _ B8.out)
        · skip
          refine goes_ Try.func16 (by kernel_rfl) rfl #[.pointer (some ⟨g, 0, none⟩)] (by rfl) rfl rfl (by simp only [List.map_toArray, List.map_cons, List.map_nil]; rfl) ?_
          with_reducible refine (rd_Left R6.out HE2.out).mono ?_
          rintro e w8 ⟨rfl, hR, hb, hk⟩
          refine ⟨_, rfl, ?_⟩
          have B8 := Aside0.mk (B6.out.trans (hb.mono G3.out))
          have hcv8 := own_string (P := Try.prog) Try.underlying22 Try.underlying5 Try.underlying9 (Kd.own_of_R (Kd.R_keep O6.out hk (fun k hk => hk.elim False.elim (fun h => Nat.ne_of_gt (Nat.lt_of_lt_of_le L6.out h)))))
          clear hR hb hk
          refine hK.out _ _ ((Kd.C_string (P := Try.prog) (c := c0) Try.underlying22 Try.underlying5 Try.underlying9 (Kd.C_below HRt.out (B8.out)))) (fun hHeld => ?_)
          clear hK K
          refine norm_ (a' := ?_) ?_ ?_
          rotate_left
          · show Act.put _ (some 33) _ = _
            simp only [Act.put, List.setIfInBounds_toArray, List.set_cons_zero, List.set_cons_succ, i64_w, i32_w]
            rfl
          refine pure_ (i := 8) (N := some 34) (v := ?_) (a' := ?_) #[true, true, false, true, true, true, true, true, true, false, false, false, false] rfl rfl (by kernel_rfl) (fun _ _ _ h => h) (Or.inl ⟨by rfl, ?_⟩) ?_ ?_
          rotate_left
          · intro w'
            go_simp
            with_reducible rfl
          rotate_left
          · simp only [Act.put, List.setIfInBounds_toArray, List.set_cons_zero, List.set_cons_succ, i64_w, i32_w]
            rfl
          refine pure_ (i := 9) (N := some 35) (v := ?_) (a' := ?_) #[true, true, false, true, true, true, true, true, true, true, false, false, false] rfl rfl (by kernel_rfl) (fun _ _ _ h => h) (Or.inl ⟨by rfl, ?_⟩) ?_ ?_
          rotate_left
          · intro w'
            go_simp
            with_reducible rfl
          rotate_left
          · simp only [Act.put, List.setIfInBounds_toArray, List.set_cons_zero, List.set_cons_succ, i64_w, i32_w]
            rfl
          refine take_ (i := 10) (N := some 36) (v := ?_) (a' := ?_) #[true, true, false, true, true, true, true, true, true, true, true, false, false] rfl rfl (by kernel_rfl) (fun _ _ _ h => h) (Or.inl ⟨by rfl, ?_⟩) hHeld ?_ ?_
          rotate_left
          · intro w' s0
            go_simp
            with_reducible rfl
          rotate_left
          · simp only [Act.put, List.setIfInBounds_toArray, List.set_cons_zero, List.set_cons_succ, i64_w, i32_w]
            rfl
          refine one_ (i := 2) (N := some 28) #[true, true, true, true, true, true, true, true, true, true, true, false, false] rfl rfl (by kernel_rfl) (by decide) (fun K hK => ?_)
          refine value_ (w1 := ?_) (v := ?_) (by rfl) rfl ?_ ?_
          rotate_left 2
          · go_simp
            constructor
            · rfl
            · rfl
          refine hK.out _ _ ((Kd.C_string (P := Try.prog) (c := c0) Try.underlying22 Try.underlying5 Try.underlying9 (Kd.C_below HRt.out (B8.out)))) (fun hHeld => ?_)
          clear hK K
          refine norm_ (a' := ?_) ?_ ?_
          rotate_left
          · show Act.put _ (some 28) _ = _
            simp only [Act.put, List.setIfInBounds_toArray, List.set_cons_zero, List.set_cons_succ, i64_w, i32_w]
            rfl
          exact norm_ (by simp only [putAll, Act.put, List.setIfInBounds_toArray, List.set_cons_zero, List.set_cons_succ]) (hCont () _ B8.out)
      intro s9 w9 hb9
      have B9 := Aside0.mk hb9
      clear hb9 s9
      have hHeld := (Kd.C_string (P := Try.prog) (c := c0) Try.underlying22 Try.underlying5 Try.underlying9 (Kd.C_below HRt.out (B9.out)))
      refine norm_ (a' := ?_) ?_ ?_
      rotate_left
      · simp only [putAll, Act.put, List.setIfInBounds_toArray, List.set_cons_zero, List.set_cons_succ]
        rfl
      refine pure_ (i := 11) (N := some 37) (v := ?_) (a' := ?_) #[true, true, true, true, true, true, true, true, true, true, true, true, false] rfl rfl (by kernel_rfl) (fun _ _ _ h => h) (Or.inl ⟨by rfl, ?_⟩) ?_ ?_
      rotate_left
      · intro w'
        go_simp
        with_reducible rfl
      rotate_left
      · simp only [Act.put, List.setIfInBounds_toArray, List.set_cons_zero, List.set_cons_succ, i64_w, i32_w]
        rfl
      refine pure_ (i := 12) (N := some 2) (v := ?_) (a' := ?_) #[true, true, true, true, true, true, true, true, true, true, true, true, true] rfl rfl (by kernel_rfl) (fun _ _ _ h => h) (Or.inl ⟨by rfl, ?_⟩) ?_ ?_
      rotate_left
      · intro w'
        go_simp
        with_reducible rfl
      rotate_left
      · simp only [Act.put, List.setIfInBounds_toArray, List.set_cons_zero, List.set_cons_succ, i64_w, i32_w]
        rfl
      refine done_ (by kernel_rfl) ?_
--END9
      go_wp2
      go_ret
      exact ⟨rfl, B9.out⟩
    · have h0 := hbad e0
      subst h0
      have b0 : (e != 0) = true := bne_iff_ne.mpr e0
      have b1 : (e == 0) = false := beq_eq_false_iff_ne.mpr e0
      have HE1 := Aside0.mk (show code_Reader_Err.f l (a : Int) e = some (e, (a : Int), e) from rfl)
      have HE2 := end_f l a e hle (by omega)
      rw [if_neg (fun q => e0 q.2)] at HE2
      replace HE2 := Aside0.mk HE2
      have hl := Aside0.mk hlen'
      clear hbad hone e0 hlen' hle
      go_enter Try.func4, Try.ntmps4
      go_wp2_with fail
      refine (contralaw04_writes.calls k1 true _ H1.out).mono ?_; rintro e w1 ⟨rfl, hb⟩; have B1 := Aside0.mk (below_step HB.out hb); clear hb
      go_wp2_with fail
      refine (code_Read.callsm rfl (Kd.C_below HR.out B1.out) HC.out (by have := hl.out; omega)).mono ?_; rintro e w3 ⟨g, rfl, hg, hR, hb⟩; have B3 := Aside0.mk (below_step B1.out hb); have R3 := Aside0.mk hR; have G3 := Aside0.mk (Nat.le_trans B1.out.size hg); clear hg hR hb
      go_wp2_with fail
      refine (rd_Num R3.out H3.out).mono ?_; rintro e w4 ⟨rfl, hR, hb, hk⟩; have B4 := Aside0.mk (B3.out.trans (hb.mono G3.out)); have R4 := Aside0.mk hR; clear hR hb hk
      go_wp2_with fail
      refine (rd_Err R4.out HE1.out).mono ?_; rintro e w5 ⟨rfl, hR, hb, hk⟩; have B5 := Aside0.mk (B4.out.trans (hb.mono G3.out)); have R5 := Aside0.mk hR; clear hR hb hk B4 R4
      go_wp2_with fail
      refine (rd_End R5.out HE2.out).mono ?_; rintro e w6 ⟨rfl, hR, hb, hk⟩; have B6 := Aside0.mk (B5.out.trans (hb.mono G3.out)); have R6 := Aside0.mk hR; clear hR hb hk
      go_wp2_with fail
      refine (rd_Err R6.out HE1.out).mono ?_; rintro e w7 ⟨rfl, hR, hb, hk⟩; have B7 := Aside0.mk (B6.out.trans (hb.mono G3.out)); clear hR hb hk
      go_wp2
      go_ret
      exact ⟨rfl, B7.out⟩
end Go.Proofs.Ytpbchkgahjafeaa.Pure
