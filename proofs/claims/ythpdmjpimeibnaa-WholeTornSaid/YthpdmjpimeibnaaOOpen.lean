/-
  A log is opened.
-/
import Derived.Test.YthpdmjpimeibnaaOWal
namespace Go.Proofs.Ythpdmjpimeibnaa.Pure.Frame
/-- what the records at the beginning take up -/
theorem scan_le : ∀ (k : Nat) (l : List Int), Bytes l → 0 ≤ (scan k l).2 ∧ (scan k l).2 ≤ l.length := by
  intro k
  induction k with
  | zero => intro l _; simp [scan]
  | succ k ih =>
    intro l hb
    rw [scan]
    by_cases h0 : l.length = 0
    · rw [if_pos h0]; simp
    · rw [if_neg h0]
      by_cases h : (read l).2.2 = 0
      · rw [if_pos h]
        have h1 := read_pos hb h
        have h2 := ih (l.drop (read l).2.1.toNat) (hb.drop _)
        rw [List.length_drop] at h2
        constructor
        · have := h2.1; have := h1.1; show 0 ≤ (read l).2.1 + _; omega
        · have := h2.2; have := h1.2; have := h1.1; show (read l).2.1 + _ ≤ _; omega
      · rw [if_neg h]; simp
end Go.Proofs.Ythpdmjpimeibnaa.Pure.Frame
namespace Go.Proofs.Ythpdmjpimeibnaa.M
open Go.RowKit Go.Proofs.YthpdmjpimeibnaaW.PrintWords Go.Proofs.YthpdmjpimeibnaaW.PrintLast Go.Proofs.YthpdmjpimeibnaaW.PrintMore
set_option linter.unusedVariables false
set_option linter.unusedSimpArgs false
theorem S_lower {α : Type} {d : Kd α} {e base base' : Nat} {w : World} {ok : Nat → Prop} {v : Value} {xs : List α} (h : Kd.S d e w base ok v xs) (hb : base' ≤ base) : Kd.S d e w base' ok v xs := by
  obtain ⟨f, h⟩ := h
  exact ⟨f, Kd.R_lower h hb⟩
/-- the disk behind an opening -/
def DS.opened (d : DS) : DS := { d with sure := d.all.take (Pure.Frame.scan d.all.length d.all).2.toNat, all := d.all.take (Pure.Frame.scan d.all.length d.all).2.toNat, renew := false }
set_option maxHeartbeats 4000000 in
set_option maxRecDepth 100000 in
theorem l_Open_down {P : Nat → Prop} {w : World} {g : Nat} {d : DS} (h : IsD P w g d) (hd : d.down = true) :
    Calls Try.prog 26 #[.pointer (some ⟨g, 0, none⟩)] w fun x w' => x = .returned (.tuple #[.pointer none, .slice none 0 0, .int .i64 60]) ∧ IsD P w' g d ∧ Below w.heap.size w w' := by
  have H := Aside0.mk h; have HD := Aside0.mk hd
  clear h hd
  go_enter Try.func26, Try.ntmps26
  go_wp2_with fail
  refine (d_Read_down H.out HD.out).mono ?_; rintro x w1 ⟨rfl, hD, hB⟩; have D1 := Aside0.mk hD; have B1 := Aside0.mk hB; clear hD hB
  go_wp2_with fail
  go_ret3
  exact ⟨rfl, D1.out, B1.out⟩
set_option maxHeartbeats 4000000 in
set_option maxRecDepth 100000 in
theorem l_Open {N : Nat} {w : World} {g : Nat} {d : DS} (h : IsD (fun k => N ≤ k) w g d) (ho : d.Ok) (hN : N ≤ w.heap.size) (hd : d.down = false) (hf : d.fuse < 0) (hb : Pure.Frame.Bytes d.all) :
    Calls Try.prog 26 #[.pointer (some ⟨g, 0, none⟩)] w fun x w' => ∃ gl v, x = .returned (.tuple #[.pointer (some ⟨gl, 0, none⟩), v, .int .i64 0]) ∧ IsW N w' g gl d.opened ((Pure.Frame.scan d.all.length d.all).1.length : Int) ∧
      Kd.S (Kd.slice 5 (Kd.int .u8)) 22 w' w.heap.size (fun _ => True) v (Pure.Frame.scan d.all.length d.all).1 ∧ Below N w w' := by
  have hs := Pure.Frame.scan_le d.all.length d.all hb
  have hal : d.all.length ≤ 4194304 := by have := ho.all_; have := ho.room1; omega
  have hev := Pure.Frame.scan_ev d.all hb (by omega) d.all.length 0 [] (Nat.zero_le _) (by omega) (by simp only [List.length_nil]; omega)
  rw [List.drop_zero, List.nil_append] at hev
  obtain ⟨k, hk⟩ := hev.rounds
  obtain ⟨rs, nn, hsc⟩ : ∃ rs nn, Pure.Frame.scan d.all.length d.all = (rs, nn) := ⟨_, _, rfl⟩
  unfold DS.opened
  rw [hsc] at hs hk ⊢
  dsimp only at hs hk ⊢
  obtain ⟨n, rfl⟩ := Int.eq_ofNat_of_zero_le hs.1
  rw [Int.toNat_natCast]
  have hk2 : frame_Scan.f k d.all = some (rs, (n : Int)) := by
    unfold frame_Scan.f
    have e : ((0 : Nat) : Int) + (n : Int) = (n : Int) := by omega
    rw [e] at hk
    exact hk
  have HK := Aside0.mk hk2; have HO := Aside0.mk ho; have HN := Aside0.mk hN; have HAL := Aside0.mk hal; have HSL := Aside0.mk hs.2
  have D0 := Aside0.mk h.bound
  have HDn := Aside0.mk hd
  obtain ⟨d1, hd1⟩ : ∃ d1, d1 = { d with all := d.all.take n, renew := true } := ⟨_, rfl⟩
  have hrw : d.renewW (d.all.take n) = (d1, 0) := by
    have hlt : ((d.all.take n).length : Int) ≤ d.room := by have := ho.all_; rw [List.length_take]; omega
    have hbn : d.burn ((d.all.take n).length : Int) = (d, ((d.all.take n).length : Int), true) := by unfold DS.burn; rw [if_pos hf]
    unfold DS.renewW
    rw [hbn, if_neg (by simp [hd]), if_neg (by omega), if_pos rfl, hd1]
  have HRW := Aside0.mk hrw
  have ho1 : d1.Ok := by rw [hd1]; exact ⟨ho.room0, ho.room1, by have := ho.all_; simp only [List.length_take]; omega, ho.sure_, ho.fuse0, ho.fuse1⟩
  have hs1 : d1.sync = ({ d with sure := d.all.take n, all := d.all.take n, renew := false }, 0) := by rw [hd1]; unfold DS.sync; simp [hd]
  have HO1 := Aside0.mk ho1; have HS1 := Aside0.mk hs1
  have hs2 : n = d.all.length → d.sync = ({ d with sure := d.all.take n, all := d.all.take n, renew := false }, 0) := by intro e; rw [e, List.take_length]; unfold DS.sync; simp [hd]
  obtain ⟨d2, hd2⟩ : ∃ d2, d2 = ({ d with sure := d.all.take n, all := d.all.take n, renew := false } : DS) := ⟨_, rfl⟩
  rw [← hd2] at HS1 hs2 ⊢
  obtain ⟨i0, hi0, _, hsz0, _⟩ := info_parts info5
  clear h hd hf hb hal hk hk2 hsc hd1 hrw ho1 hs1 hd2 ho hN

  by_cases hcut : n < d.all.length
  · have t1 : decide ((n : Int) < (d.all.length : Int)) = true := decide_eq_true (by omega)
    have t2 : decide (n < d.all.length) = true := decide_eq_true hcut
    have t3 := eq_true hcut
    have HCUT := Aside0.mk hcut
    clear hcut hs hs2

    go_enter Try.func26, Try.ntmps26
    go_wp2_with fail
    refine (d_Read D0.out HO.out HDn.out).mono ?_; rintro x w1 ⟨v1, rfl, hO, hD, hB⟩
    obtain ⟨A1, c1, rfl⟩ := Kd.R_slice hO
    have O1 := Aside0.mk hO; have C1 := Aside0.mk (Kd.R_reads' hO).2.2; have L1 := Aside0.mk (Kd.R_reads' hO).2.1; have D1 := Aside0.mk hD; have B1 := Aside0.mk hB; clear hO hD hB
    go_wp2_with fail
    refine (frame_Scan.calls k A1 c1 d.all rs (n : Int) w1 C1.out L1.out HK.out).mono ?_; rintro x w2 ⟨v2, rfl, hS, hB⟩
    obtain ⟨A2, c2, e2⟩ := (Kd.S_reads hS); obtain ⟨rfl, -, -⟩ := e2
    have S2 := Aside0.mk (Kd.S_mono (ok' := fun k => w.heap.size ≤ k ∧ k < w2.heap.size) (Kd.S_bound hS) (fun k hk => ⟨Nat.le_trans B1.out.size hk.2.1, hk.2.2.1⟩)); have D2 := Aside0.mk (D1.out.below hB); have O2 := Aside0.mk (Kd.R_below O1.out hB); have B2 := Aside0.mk (below_step B1.out hB); clear hS hB
    obtain ⟨hct, hcr, hcl⟩ := print_take_int (P := Try.prog) (k := .u8) 22 5 Try.underlying22 hi0 hsz0 A1 c1 d.all (n : Int) (by omega) (by have := HSL.out; omega) L1.out
    rw [Int.toNat_natCast] at hct hcr hcl
    have HTL := Aside0.mk (show min n d.all.length = n by have := HCUT.out; omega)
    have hcr := Aside0.mk hcr; have HCL := Aside0.mk hcl
    have HTK := Aside0.mk (show (d.all.take n).length = n by rw [List.length_take]; exact HTL.out)
    clear hcl
    go_wp2_with fail
    have hRn := d_Renew (A := A1) (c := c1) (b := d.all.take n) D2.out HO.out HCL.out (by rw [HTK.out]; have := HAL.out; have := HCUT.out; omega) (fun w' hk => Kd.C_of_reads (h1 := fun _ => rfl) (hcr.out _ (Kd.reads_of_C (own_lit O2.out (fun k hk => hk.2) w' hk))))
    rw [HRW.out] at hRn
    rw [HTK.out] at hRn
    (try rw [HTL.out])
    refine hRn.mono ?_; rintro x w3 ⟨rfl, hD, hK, hB⟩
    clear hRn
    dsimp only at hD ⊢
    have D3 := Aside0.mk hD; have S23 := Aside0.mk hB.size; have B23 := Aside0.mk (kept_belowN hB hK (fun k hk => hk.1) (Nat.le_trans HN.out B2.out.size)); have S3 := Aside0.mk (Kd.S_kept S2.out hK (fun k hk q => absurd q.2 (Nat.not_lt.mpr hk.1))); clear hD hK hB
    go_wp2_with fail
    refine (d_SyncK D3.out HO1.out).mono ?_; rintro x w4 ⟨rfl, hD, hK, hB⟩
    rw [HS1.out] at hD ⊢
    dsimp only at hD ⊢
    have D4 := Aside0.mk (hD.mono (P' := fun k => N ≤ k) (fun k hk => hk.elim (fun q => q.elim (fun q => q.1) (fun q => Nat.le_trans HN.out (Nat.le_trans B2.out.size q))) (fun q => Nat.le_trans HN.out (Nat.le_trans B2.out.size (Nat.le_trans S23.out q))))); have KK4 := Aside0.mk hK; have BB4 := Aside0.mk hB
    have S3d := Aside0.mk (show ∀ k, (w.heap.size ≤ k ∧ k < w2.heap.size) → ¬ ((N ≤ k ∧ k < w.heap.size) ∨ w2.heap.size ≤ k) from fun k hk q => q.elim (fun q => absurd q.2 (Nat.not_lt.mpr hk.1)) (fun q => absurd hk.2 (Nat.not_lt.mpr q)))
    have S4P := Aside0.mk (show ∀ k, ((N ≤ k ∧ k < w.heap.size) ∨ w2.heap.size ≤ k) → N ≤ k from fun k hk => hk.elim (fun q => q.1) (fun q => Nat.le_trans HN.out (Nat.le_trans B2.out.size q)))
    clear hD hK hB
    have S5 := Aside0.mk (Kd.S_kept S3.out KK4.out (fun k hk q => S3d.out k hk q))
    go_wp2_with (first | ((with_reducible refine gate_dst (N := 45) rfl ?_); refine box_event ?hg (N := 45) ?hd (cs := #[.pointer (some ⟨g, 0, none⟩), .int .i64 (rs.length : Int)]) (t := 81) ?hr ?_; (case hd => rfl); (case hg => rfl); (case hr => first | (go_simp; done) | (go_simp; rfl)); intro gl hg w5 hbox hb; have B5 := Aside0.mk hb; have X5 := Aside0.mk hbox; have G5 := Aside0.mk hg; clear hb hbox hg))
    go_ret3
    exact ⟨gl, _, rfl, ⟨(D4.out.bound.below B5.out).mono (fun k hk => ⟨hk.1, fun e => by rw [e, G5.out] at hk; exact Nat.lt_irrefl _ hk.2⟩), X5.out, by rw [G5.out]; exact Nat.le_trans HN.out (Nat.le_trans B2.out.size (Nat.le_trans S23.out BB4.out.size))⟩, Kd.S_mono (S_lower (Kd.S_below S5.out B5.out) B1.out.size) (fun _ _ => trivial), ((B2.out.mono HN.out).trans (B23.out.trans (kept_belowN BB4.out KK4.out S4P.out (Nat.le_trans HN.out (Nat.le_trans B2.out.size S23.out))))).trans (B5.out.mono (Nat.le_trans HN.out (Nat.le_trans B2.out.size (Nat.le_trans S23.out BB4.out.size))))⟩
  · have t1 : decide ((n : Int) < (d.all.length : Int)) = false := decide_eq_false (by omega)
    have t2 : decide (n < d.all.length) = false := decide_eq_false hcut
    have t3 := eq_false hcut
    have HS2 := Aside0.mk (hs2 (by omega))
    clear hcut hs hs2

    go_enter Try.func26, Try.ntmps26
    go_wp2_with fail
    refine (d_Read D0.out HO.out HDn.out).mono ?_; rintro x w1 ⟨v1, rfl, hO, hD, hB⟩
    obtain ⟨A1, c1, rfl⟩ := Kd.R_slice hO
    have O1 := Aside0.mk hO; have C1 := Aside0.mk (Kd.R_reads' hO).2.2; have L1 := Aside0.mk (Kd.R_reads' hO).2.1; have D1 := Aside0.mk hD; have B1 := Aside0.mk hB; clear hO hD hB
    go_wp2_with fail
    refine (frame_Scan.calls k A1 c1 d.all rs (n : Int) w1 C1.out L1.out HK.out).mono ?_; rintro x w2 ⟨v2, rfl, hS, hB⟩
    obtain ⟨A2, c2, e2⟩ := (Kd.S_reads hS); obtain ⟨rfl, -, -⟩ := e2
    have S2 := Aside0.mk (Kd.S_mono (ok' := fun k => w.heap.size ≤ k ∧ k < w2.heap.size) (Kd.S_bound hS) (fun k hk => ⟨Nat.le_trans B1.out.size hk.2.1, hk.2.2.1⟩)); have D2 := Aside0.mk (D1.out.below hB); have O2 := Aside0.mk (Kd.R_below O1.out hB); have B2 := Aside0.mk (below_step B1.out hB); clear hS hB
    have S23 := Aside0.mk (Nat.le_refl w2.heap.size); have B23 := Aside0.mk (Below.refl N w2); have S3 := S2
    go_wp2_with fail
    refine (d_SyncK D2.out HO.out).mono ?_; rintro x w4 ⟨rfl, hD, hK, hB⟩
    rw [HS2.out] at hD ⊢
    dsimp only at hD ⊢
    have D4 := Aside0.mk (hD.mono (P' := fun k => N ≤ k) (fun k hk => hk.elim (fun q => q.1) (fun q => Nat.le_trans HN.out (Nat.le_trans B2.out.size q)))); have KK4 := Aside0.mk hK; have BB4 := Aside0.mk hB
    have S3d := Aside0.mk (show ∀ k, (w.heap.size ≤ k ∧ k < w2.heap.size) → ¬ (N ≤ k ∧ k < w.heap.size) from fun k hk q => absurd q.2 (Nat.not_lt.mpr hk.1))
    have S4P := Aside0.mk (show ∀ k, (N ≤ k ∧ k < w.heap.size) → N ≤ k from fun k hk => hk.1)
    clear hD hK hB
    have S5 := Aside0.mk (Kd.S_kept S3.out KK4.out (fun k hk q => S3d.out k hk q))
    go_wp2_with (first | ((with_reducible refine gate_dst (N := 45) rfl ?_); refine box_event ?hg (N := 45) ?hd (cs := #[.pointer (some ⟨g, 0, none⟩), .int .i64 (rs.length : Int)]) (t := 81) ?hr ?_; (case hd => rfl); (case hg => rfl); (case hr => first | (go_simp; done) | (go_simp; rfl)); intro gl hg w5 hbox hb; have B5 := Aside0.mk hb; have X5 := Aside0.mk hbox; have G5 := Aside0.mk hg; clear hb hbox hg))
    go_ret3
    exact ⟨gl, _, rfl, ⟨(D4.out.bound.below B5.out).mono (fun k hk => ⟨hk.1, fun e => by rw [e, G5.out] at hk; exact Nat.lt_irrefl _ hk.2⟩), X5.out, by rw [G5.out]; exact Nat.le_trans HN.out (Nat.le_trans B2.out.size (Nat.le_trans S23.out BB4.out.size))⟩, Kd.S_mono (S_lower (Kd.S_below S5.out B5.out) B1.out.size) (fun _ _ => trivial), ((B2.out.mono HN.out).trans (B23.out.trans (kept_belowN BB4.out KK4.out S4P.out (Nat.le_trans HN.out (Nat.le_trans B2.out.size S23.out))))).trans (B5.out.mono (Nat.le_trans HN.out (Nat.le_trans B2.out.size (Nat.le_trans S23.out BB4.out.size))))⟩
end Go.Proofs.Ythpdmjpimeibnaa.M
