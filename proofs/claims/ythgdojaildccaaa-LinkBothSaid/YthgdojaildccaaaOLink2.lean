/-
  (link.Links).Clone: the sessions, cloned; one of them is told apart.
-/
import Derived.Test.YthgdojaildccaaaPLink
namespace Go.Proofs.Ythgdojaildccaaa.M
open Go.RowKit Go.Proofs.YthgdojaildccaaaW.PrintWords Go.Proofs.YthgdojaildccaaaW.PrintLast Go.Proofs.YthgdojaildccaaaW.PrintMore
set_option linter.unusedVariables false
set_option linter.unusedSimpArgs false
theorem blk_at {W : World} {g : Nat} {u : Value} {i : Nat} (h : W.cell? ((⟨g, 0, none⟩ : Addr).add (i * 2)) = some u) : W.cell? ⟨g, i * 2, none⟩ = some u := by
  unfold Addr.add at h
  by_cases h0 : i * 2 = 0
  · rw [if_pos h0] at h; rw [h0]; exact h
  · rw [if_neg h0, Nat.zero_add] at h; exact h
theorem blk_at1 {W : World} {g : Nat} {u : Value} {i : Nat} (h : W.cell? ((⟨g, 0, none⟩ : Addr).add (i * 2 + 1)) = some u) : W.cell? ⟨g, i * 2 + 1, none⟩ = some u := by
  unfold Addr.add at h
  rw [if_neg (by omega), Nat.zero_add] at h; exact h
theorem cell_bel2 {w w' : World} {a : Addr} {v : Value} (h : w.cell? a = some v) (hb : Below w.heap.size w w') : w'.cell? a = some v := by
  have e := hb.block _ (World.block_lt_of_cell? _ _ h)
  unfold World.cell? at h ⊢
  rw [e]; exact h
theorem le_drew {a : Nat} {w : World} (h : a ≤ w.heap.size) : a ≤ w.drew.heap.size := h
theorem lt_drew {a : Nat} {w : World} (h : a < w.heap.size) : a < w.drew.heap.size := h
theorem nkC {i n gk : Nat} (hi : i < n) (h : i ≤ n ∧ i + gk = n + 1) : (i + 1 ≤ n ∧ i + 1 + (gk - 1) = n + 1) ∧ 0 < gk := by omega
theorem rd_at {l : List S64} {i : Nat} (h : i < l.length) : rd_T64 l (i : Int) = l[i] := by simp [rd_T64, h]
/-- the blocks of Clone's row: old or new, not its boxes, not vt's -/
def OKC (ok : Nat → Prop) (w : World) (g1 g2 : Nat) (vt : Value) (k : Nat) : Prop := (OKN ok w k ∧ k ≠ g1 ∧ k ≠ g2) ∧ some k ≠ vt.ownBlock
/-- what Clone leaves: the row of peers at block g, peer t's row vt told apart -/
def Cloned (N : Nat) (ok : Nat → Prop) (w w' : World) (g cap : Nat) (vt : Value) (t : Nat) (l : List S64) : Prop :=
  w.heap.size ≤ g ∧ (∀ k, vt.ownBlock = some k → w.heap.size ≤ k) ∧ Kd.R (kQ vt) 64 w' N (fun k => OKN ok w k ∧ some k ≠ vt.ownBlock) (.slice (some ⟨g, 0, none⟩) l.length cap) (tags t l.length l) ∧ Kd.R k35 35 w' N (fun k => OKN ok w k ∧ k ≠ g) vt (rd_T64 l (t : Int)).f0 ∧ Below w.heap.size w w'
set_option maxHeartbeats 8000000 in
set_option maxRecDepth 100000 in
theorem links_Clone {A : Option Addr} {n c t N : Nat} {me : Int} {l : List S64} {ok : Nat → Prop} {w : World} (hn : n = l.length) (hN : N ≤ w.heap.size) (hR : Kd.R k64 64 w N ok (.slice A l.length c) l) (ht : t < l.length) (hl : l.length ≤ 1000000) (hs : ∀ x ∈ l, x.f0.length ≤ 1000000) :
    Calls Try.prog 28 #[.agg #[.int .i64 me, .slice A n c]] w fun x w' => ∃ g cap vt, x = .returned (.agg #[.int .i64 me, .slice (some ⟨g, 0, none⟩) l.length cap]) ∧ Cloned N ok w w' g cap vt t l := by
  subst hn
  have B0 := Aside0.mk (Below.refl w.heap.size w)
  have hR2 := Kd.R_mono (ok' := fun k => ok k ∧ k < w.heap.size) (Kd.R_bound hR) (fun k hk => ⟨hk.1, hk.2.2.1⟩)
  have HR := Aside0.mk hR2; have HN := Aside0.mk hN; have HT := Aside0.mk ht; have HL := Aside0.mk hl; have HS := Aside0.mk hs
  clear hR hR2 hN ht hl hs
  go_enter Try.func28, Try.ntmps28
  go_wp2_with (first | ((with_reducible refine gate_dst (N := 1) rfl ?_); refine box_event ?hg (N := 1) ?hd (cs := #[.int .i64 me, .slice A l.length c]) (t := 55) ?hr ?_; (case hd => rfl); (case hg => rfl); (case hr => first | (go_simp; done) | (go_simp; rfl)); intro g1 hg w1 hbox hb; have B1 := Aside0.mk (below_step B0.out hb); have P1 := Aside0.mk hbox; have G1 := Aside0.mk (show w.heap.size ≤ g1 from by rw [hg]; exact Nat.le_refl _); clear hb hg hbox) | ((with_reducible refine gate_dst (N := 2) rfl ?_); refine box_event ?hg (N := 2) ?hd (cs := #[.int .i64 0, .slice none 0 0]) (t := 55) ?hr ?_; (case hd => rfl); (case hg => rfl); (case hr => first | (go_simp; done) | (go_simp; rfl)); intro g2 hg w2 hbox hb; have B2 := Aside0.mk (below_step B1.out hb); have P2 := Aside0.mk (blk_below P1.out hb); have Q2 := Aside0.mk hbox; have G2 := Aside0.mk (show w.heap.size ≤ g2 ∧ g1 < g2 from ⟨by rw [hg]; exact B1.out.size, by rw [hg]; exact blk_lt P1.out⟩); have xc0 : w2.cell? ⟨g1, 0, none⟩ = some (.int .i64 me) := (blk_cell P2.out 0).trans rfl; have xf0 := blk_frozen P2.out 0; have xc1 : w2.cell? ⟨g1, 1, none⟩ = some (.slice A l.length c) := (blk_cell P2.out 1).trans rfl; have xf1 := blk_frozen P2.out 1; clear hb hg hbox))
  obtain ⟨A_, c_, e_, hcl_, hrd⟩ := OwnRow.reads (Kd.R_below HR.out B2.out).2
  injection e_ with e_ e2_ e3_
  subst e_
  clear e2_ e3_
  refine (clone64_calls (ok := fun k => ok k ∧ k < w.heap.size) rfl (Nat.le_trans HN.out B2.out.size) (ReadsRow.imp_ hrd (Below.refl _ _) (fun _ _ hp => k64.M_mono (fun k hk => ⟨hk.1, Nat.lt_of_lt_of_le hk.1.2 B2.out.size⟩) hp)) (by have := HL.out; omega)).mono ?_
  rintro x w3 ⟨v, rfl, hO, hv, hb⟩
  obtain ⟨ad, cap, ev⟩ := Kd.R_slice1 hO (by have := HT.out; omega)
  obtain ⟨g, eg⟩ : ∃ g, ad = ⟨g, 0, none⟩ := by
    obtain ⟨inner, ho⟩ := Kd.R_own hO
    rcases ho.2 with ⟨e, _⟩ | ⟨g', cap', cur, e, _⟩
    · rw [ev] at e; cases e
    · rw [ev] at e; injection e with e; injection e with e; exact ⟨g', e⟩
  subst ev
  subst eg
  have hO2 := R_Q0 (vt := .slice none 0 0) (Kd.R_mono (ok' := OKC ok w g1 g2 (.slice none 0 0)) hO (fun k hk => by
    have h1 := G1.out; have h2 := G2.out; have h3 := blk_lt P2.out; have h4 := blk_lt Q2.out; have h5 := B2.out.size
    rcases hk with ⟨hk, _⟩ | hk
    · exact ⟨⟨.inl hk, by have := hk.2; omega, by have := hk.2; omega⟩, by simp [Value.ownBlock]⟩
    · exact ⟨⟨.inr (by omega), by omega, by omega⟩, by simp [Value.ownBlock]⟩))
  rw [tags_zero t] at hO2
  have O3 := Aside0.mk hO2
  have B3 := Aside0.mk (below_step B2.out hb); have P3 := Aside0.mk (blk_below P2.out hb); have Q3 := Aside0.mk (blk_below Q2.out hb)
  have G3 := Aside0.mk (show w.heap.size ≤ g ∧ g1 ≠ g ∧ g2 ≠ g from ⟨by have := hv g rfl; have := B2.out.size; omega, by have := hv g rfl; have := blk_lt P2.out; omega, by have := hv g rfl; have := blk_lt Q2.out; omega⟩)
  clear hO hO2 hv hb hrd hcl_ P2 Q2 xc0 xf0 xc1 xf1
  have xc0 : w3.cell? ⟨g1, 0, none⟩ = some (.int .i64 me) := (blk_cell P3.out 0).trans rfl; have xf0 := blk_frozen P3.out 0; have xc1 : w3.cell? ⟨g1, 1, none⟩ = some (.slice A l.length c) := (blk_cell P3.out 1).trans rfl; have xf1 := blk_frozen P3.out 1
  go_wp2_with (first | ((with_reducible refine gate_dst (N := 8) rfl ?_); have B4 := Aside0.mk (below_setB B3.out (p := ⟨g1, 1, none⟩) G1.out (.slice (some ⟨g, 0, none⟩) l.length cap)); have P4 := Aside0.mk (blk_put P3.out 1 (.slice (some ⟨g, 0, none⟩) l.length cap) (cs' := #[.int .i64 me, .slice (some ⟨g, 0, none⟩) l.length cap]) rfl); have Q4 := Aside0.mk (blk_far Q3.out (p := ⟨g1, 1, none⟩) (Nat.ne_of_gt G2.out.2) (.slice (some ⟨g, 0, none⟩) l.length cap)); have O4 := Aside0.mk (Kd.R_kept O3.out ((Kept.refl w3 (fun k => k = g1)).setCell (p := ⟨g1, 1, none⟩) (.inl rfl) (.slice (some ⟨g, 0, none⟩) l.length cap)) (fun k hk e => hk.1.2.1 e)); clear B3 P3 Q3 O3 xc0 xf0 xc1 xf1; generalize w3.setCell ⟨g1, 1, none⟩ (.slice (some ⟨g, 0, none⟩) l.length cap) = w4 at B4 P4 Q4 O4 ⊢; have xc0 : w4.cell? ⟨g1, 0, none⟩ = some (.int .i64 me) := (blk_cell P4.out 0).trans rfl; have xf0 := blk_frozen P4.out 0; have xc1 : w4.cell? ⟨g1, 1, none⟩ = some (.slice (some ⟨g, 0, none⟩) l.length cap) := (blk_cell P4.out 1).trans rfl; have xf1 := blk_frozen P4.out 1))
  clear xc0 xf0 xc1 xf1
  go_loopg [11] (l.length + 1) (fun kq v11 w' => ∃ (i : Nat) (vt : Value), v11 = .int .i64 (i : Int) ∧ Aside0 (i ≤ l.length ∧ i + kq = l.length + 1) ∧ Aside0 (Below w.heap.size w w') ∧ Aside0 (w'.heap[g1]? = some (.cells #[.int .i64 me, .slice (some ⟨g, 0, none⟩) l.length cap] 55 (0, 0))) ∧ Aside0 (w'.heap[g2]? = some (.cells #[.int .i64 0, .slice none 0 0] 55 (0, 0))) ∧ Aside0 (Kd.R (kQ vt) 64 w' N (OKC ok w g1 g2 vt) (.slice (some ⟨g, 0, none⟩) l.length cap) (tags t i l)) ∧ Aside0 (∀ k, vt.ownBlock = some k → w.heap.size ≤ k ∧ k < w'.heap.size) ∧ Aside0 (t < i → Kd.R k35 35 w' N (fun k => (OKN ok w k ∧ k ≠ g1 ∧ k ≠ g2) ∧ k ≠ g) vt (rd_T64 l (t : Int)).f0))
  case atStart => exact ⟨0, .slice none 0 0, rfl, ⟨by omega, by omega⟩, B4, P4, Q4, O4, ⟨by simp [Value.ownBlock]⟩, ⟨fun h => absurd h (Nat.not_lt_zero _)⟩⟩
  case round =>
    obtain ⟨i, vt, rfl, HI, B5, P5, Q5, O5, V5, T5⟩ := hrel
    clear B4 P4 Q4 O4
    by_cases hi : i < l.length
    · have d1 : decide ((i : Int) < (l.length : Int)) = true := decide_eq_true (by omega)
      have d2 : decide (i < l.length) = true := decide_eq_true hi
      have d3 : (i < l.length) = True := eq_true hi
      have hi0 : (0 : Int) ≤ (i : Int) := by omega
      have hi1 : (i : Int) < (l.length : Int) := by omega
      have O5b := Aside0.mk (Kd.R_mono (ok' := fun k => OKC ok w g1 g2 vt k ∧ k < wr.heap.size) (Kd.R_bound O5.out) (fun k hk => ⟨hk.1, hk.2.2.1⟩))
      obtain ⟨A_, cp_, e_, -, hrd⟩ := OwnRow.reads O5b.out.2
      injection e_ with e_ e2_ e3_
      subst e_
      clear e2_ e3_
      obtain ⟨ad, cc, ea, hcl, hK, hcell⟩ := ReadsRow.get_ hrd (z64, 0) (i : Int) hi0 (by rw [tags_len]; exact hi1)
      injection ea with ea
      subst ea
      rw [Int.toNat_natCast] at hK hcell
      have hel : (tags t i l).getD i (z64, 0) = (l[i], 0) := by rw [List.getD_eq_getElem?_getD, tags_at hi]; simp
      rw [hel] at hK
      rcases hK with ⟨-, hK⟩ | ⟨h, -⟩
      rotate_left
      · exact absurd (show (0 : Nat) = 2 from h) (by decide)
      obtain ⟨v0, ecs, hRs⟩ := k64_openM hK
      subst ecs
      obtain ⟨As, cs, es⟩ := Kd.R_slice hRs
      subst es
      dsimp only at hRs hcell
      have y0 := blk_at (hcell 0 _ rfl)
      have y1 := blk_at1 (hcell 1 _ rfl)
      have hfs := HS.out _ (List.getElem_mem hi)
      obtain ⟨s, hs⟩ : ∃ s, s = l[i] := ⟨_, rfl⟩
      rw [← hs] at y0 y1 hRs hfs
      have HSI := Aside0.mk (show l[i]? = some s by rw [hs, List.getElem?_eq_getElem hi]); have RS := Aside0.mk hRs; have FS := Aside0.mk hfs; have HI2 := Aside0.mk hi
      have Y0 := Aside0.mk y0; have Y1 := Aside0.mk y1
      have b2 : wrap64 ((i : Int) + 1) = ((i + 1 : Nat) : Int) := by have := HL.out; unfold wrap64; omega
      have q1 := eq_true hi0; have q2 := eq_true hi1; have q3 : decide ((0 : Int) ≤ (i : Int)) = true := decide_eq_true hi0
      have NK := Aside0.mk (nkC hi HI.out)
      clear hcl hel hcell hK hRs hfs hs y0 y1 hrd
      clear hi
      have xc0 : wr.cell? ⟨g1, 0, none⟩ = some (.int .i64 me) := (blk_cell P5.out 0).trans rfl; have xf0 := blk_frozen P5.out 0; have xc1 : wr.cell? ⟨g1, 1, none⟩ = some (.slice (some ⟨g, 0, none⟩) l.length cap) := (blk_cell P5.out 1).trans rfl; have xf1 := blk_frozen P5.out 1
      go_wp2_with fail
      refine start_ (n := 13) (S := fun w' => w'.cell? ⟨g1, 1, none⟩ = some (.slice (some ⟨g, 0, none⟩) l.length cap) ∧ w'.cell? ⟨g, i * 2, none⟩ = some (.slice As s.f0.length cs)) (ds := [12]) #[false, false, false, false, false, false, false, false, false, false, false, false, false] (by kernel_rfl) rfl rfl ⟨(blk_cell (blk_drew P5.out) 1).trans rfl, cell_bel2 Y0.out (below_drew (Below.refl _ _))⟩ (fun hHeld => ?_)
      refine pure_ (i := 0) (N := some 14) (v := ?_) (a' := ?_) #[true, false, false, false, false, false, false, false, false, false, false, false, false] rfl rfl (by kernel_rfl) (fun _ _ _ h => h) (Or.inl ⟨by rfl, ?_⟩) ?_ ?_
      rotate_left
      · intro w'
        go_simp
        with_reducible rfl
      rotate_left
      · simp only [Act.put, List.setIfInBounds_toArray, List.set_cons_zero, List.set_cons_succ, i64_w, i32_w]
        rfl
      refine pure_ (i := 2) (N := some 16) (v := ?_) (a' := ?_) #[true, false, true, false, false, false, false, false, false, false, false, false, false] rfl rfl (by kernel_rfl) (fun _ _ _ h => h) (Or.inl ⟨by rfl, ?_⟩) ?_ ?_
      rotate_left
      · intro w'
        go_simp
        with_reducible rfl
      rotate_left
      · simp only [Act.put, List.setIfInBounds_toArray, List.set_cons_zero, List.set_cons_succ, i64_w, i32_w]
        rfl
      refine pure_ (i := 3) (N := some 17) (v := ?_) (a' := ?_) #[true, false, true, true, false, false, false, false, false, false, false, false, false] rfl rfl (by kernel_rfl) (fun _ _ _ h => h) (Or.inl ⟨by rfl, ?_⟩) ?_ ?_
      rotate_left
      · intro w'
        go_simp
        with_reducible rfl
      rotate_left
      · simp only [Act.put, List.setIfInBounds_toArray, List.set_cons_zero, List.set_cons_succ, i64_w, i32_w]
        rfl
      refine pure_ (i := 5) (N := some 19) (v := ?_) (a' := ?_) #[true, false, true, true, false, true, false, false, false, false, false, false, false] rfl rfl (by kernel_rfl) (fun _ _ _ h => h) (Or.inl ⟨by rfl, ?_⟩) ?_ ?_
      rotate_left
      · intro w'
        go_simp
        with_reducible rfl
      rotate_left
      · simp only [Act.put, List.setIfInBounds_toArray, List.set_cons_zero, List.set_cons_succ, i64_w, i32_w]
        rfl
      refine take_ (i := 1) (N := some 15) (v := ?_) (a' := ?_) #[true, true, true, true, false, true, false, false, false, false, false, false, false] rfl rfl (by kernel_rfl) (fun _ _ _ h => h) (Or.inl ⟨by rfl, ?_⟩) hHeld ?_ ?_
      rotate_left
      · rintro w' ⟨s0, s1⟩
        go_simp
        with_reducible rfl
      rotate_left
      · simp only [Act.put, List.setIfInBounds_toArray, List.set_cons_zero, List.set_cons_succ, i64_w, i32_w]
        rfl
      refine take_ (i := 4) (N := some 18) (v := ?_) (a' := ?_) #[true, true, true, true, true, true, false, false, false, false, false, false, false] rfl rfl (by kernel_rfl) (fun _ _ _ h => h) (Or.inl ⟨by rfl, ?_⟩) hHeld ?_ ?_
      rotate_left
      · rintro w' ⟨s0, s1⟩
        go_simp
        with_reducible rfl
      rotate_left
      · simp only [Act.put, List.setIfInBounds_toArray, List.set_cons_zero, List.set_cons_succ, i64_w, i32_w]
        rfl
      refine pure_ (i := 6) (N := some 20) (v := ?_) (a' := ?_) #[true, true, true, true, true, true, true, false, false, false, false, false, false] rfl rfl (by kernel_rfl) (fun _ _ _ h => h) (Or.inl ⟨by rfl, ?_⟩) ?_ ?_
      rotate_left
      · intro w'
        go_simp
        with_reducible rfl
      rotate_left
      · simp only [Act.put, List.setIfInBounds_toArray, List.set_cons_zero, List.set_cons_succ, i64_w, i32_w]
        rfl
      refine pure_ (i := 7) (N := some 21) (v := ?_) (a' := ?_) #[true, true, true, true, true, true, true, true, false, false, false, false, false] rfl rfl (by kernel_rfl) (fun _ _ _ h => h) (Or.inl ⟨by rfl, ?_⟩) ?_ ?_
      rotate_left
      · intro w'
        go_simp
        with_reducible rfl
      rotate_left
      · simp only [Act.put, List.setIfInBounds_toArray, List.set_cons_zero, List.set_cons_succ, i64_w, i32_w]
        rfl
      refine take_ (i := 8) (N := some 22) (v := ?_) (a' := ?_) #[true, true, true, true, true, true, true, true, true, false, false, false, false] rfl rfl (by kernel_rfl) (fun _ _ _ h => h) (Or.inl ⟨by rfl, ?_⟩) hHeld ?_ ?_
      rotate_left
      · rintro w' ⟨s0, s1⟩
        go_simp
        with_reducible rfl
      rotate_left
      · simp only [Act.put, List.setIfInBounds_toArray, List.set_cons_zero, List.set_cons_succ, i64_w, i32_w]
        rfl
      refine one_ (i := 9) (N := some 23) #[true, true, true, true, true, true, true, true, true, true, false, false, false] rfl rfl (by kernel_rfl) (by decide) (fun K hK => ?_)
      obtain ⟨A_, cp_, e_, -, hrd2⟩ := OwnRow.reads (Kd.R_drew RS.out).2
      injection e_ with e_ e2_ e3_
      subst e_
      clear e2_ e3_
      refine goes_ Try.func33 (by kernel_rfl) rfl #[.slice As s.f0.length cs] (by rfl) rfl rfl (by simp only [List.map_toArray, List.map_cons, List.map_nil]; rfl) ?_
      with_reducible refine (clone35_calls (ok := (fun k => (OKC ok w g1 g2 vt k ∧ k < wr.heap.size) ∧ some k ≠ (Value.slice (some ⟨g, 0, none⟩) l.length cap).ownBlock)) (w := wr.drew) rfl (le_drew (Nat.le_trans HN.out B5.out.size)) (ReadsRow.imp_ hrd2 (Below.refl _ _) (fun _ _ hp => k35.M_mono (fun k hk => ⟨hk.1, lt_drew hk.1.1.2⟩) hp)) (by have := FS.out; omega)).mono ?_
      rintro x w6 ⟨v6, rfl, hO, hv, hb⟩
      refine ⟨_, rfl, ?_⟩
      obtain ⟨A6, c6, e6⟩ := Kd.R_slice hO
      subst e6
      have N6 := Aside0.mk hO
      have VN6 := Aside0.mk hv
      have HB6 := Aside0.mk (below_step (below_drew (Below.refl wr.heap.size wr)) hb)
      have Y6 := Aside0.mk (cell_bel2 Y0.out HB6.out)
      have Z6 := Aside0.mk (cell_bel2 Y1.out HB6.out)
      have y6 := Y6.out
      obtain ⟨cur, hcur⟩ := Kd.R_typed (Kd.R_below O5.out HB6.out) g rfl
      have yf := blk_frozen hcur (i * 2)
      clear hO hv hb hcur hrd2
      refine hK.out _ _ ⟨(blk_cell (blk_below P5.out HB6.out) 1).trans rfl, Y6.out⟩ (fun hHeld => ?_)
      clear hK K
      refine norm_ (a' := ?_) ?_ ?_
      rotate_left
      · show Act.put _ (some 23) _ = _
        simp only [Act.put, List.setIfInBounds_toArray, List.set_cons_zero, List.set_cons_succ, i64_w, i32_w]
        rfl
      refine pure_ (i := 10) (N := some 24) (v := ?_) (a' := ?_) #[true, true, true, true, true, true, true, true, true, true, true, false, false] rfl rfl (by kernel_rfl) (fun _ _ _ h => h) (Or.inl ⟨by rfl, ?_⟩) ?_ ?_
      rotate_left
      · intro w'
        go_simp
        with_reducible rfl
      rotate_left
      · simp only [Act.put, List.setIfInBounds_toArray, List.set_cons_zero, List.set_cons_succ, i64_w, i32_w]
        rfl
      refine pure_ (i := 11) (N := some 25) (v := ?_) (a' := ?_) #[true, true, true, true, true, true, true, true, true, true, true, true, false] rfl rfl (by kernel_rfl) (fun _ _ _ h => h) (Or.inl ⟨by rfl, ?_⟩) ?_ ?_
      rotate_left
      · intro w'
        go_simp
        with_reducible rfl
      rotate_left
      · simp only [Act.put, List.setIfInBounds_toArray, List.set_cons_zero, List.set_cons_succ, i64_w, i32_w]
        rfl
      refine last_ (i := 12) (N := none) #[true, true, true, true, true, true, true, true, true, true, true, true, true] rfl rfl (by kernel_rfl) (by decide) (fun K hK => ?_)
      refine skip_ (w1 := ?_) (by rfl) rfl ?_ ?_
      rotate_left
      · go_simp
        rfl
      refine hK.out _ _ ?_
      clear hK K
      refine done_ (by kernel_rfl) ?_
      clear y6 yf
      have hO6 := Kd.R_below O5b.out HB6.out
      have hP6 := blk_below P5.out HB6.out
      have hQ6 := blk_below Q5.out HB6.out
      have hg := Kd.R_lt O5.out g rfl
      have hv6 := VN6.out
      have hcc : ∀ (j : Nat) (u : Value), [.slice As s.f0.length cs, .int .i64 s.f1][j]? = some u → w6.cell? ⟨g, ((i : Int)).toNat * (kQ vt).sz + j, none⟩ = some u := by
        rintro (_ | _ | j) u hj
        · injection hj with hj; subst hj; exact Y6.out
        · injection hj with hj; subst hj; exact Z6.out
        · simp at hj
      have hB7 := below_setB (below_step B5.out HB6.out) (p := ⟨g, i * 2, none⟩) G3.out.1 (.slice A6 s.f0.length c6)
      have hP7 := blk_far hP6 (p := ⟨g, i * 2, none⟩) G3.out.2.1 (.slice A6 s.f0.length c6)
      have hQ7 := blk_far hQ6 (p := ⟨g, i * 2, none⟩) G3.out.2.2 (.slice A6 s.f0.length c6)
      have hw6 : w6.heap.size ≤ (w6.setCell ⟨g, i * 2, none⟩ (.slice A6 s.f0.length c6)).heap.size := by simp [World.setCell]
      have hle : wr.heap.size ≤ w6.heap.size := HB6.out.size
      have hg1 := blk_lt P5.out
      have hg2 := blk_lt Q5.out
      have hdr : wr.drew.heap.size = wr.heap.size := rfl
      have hwb := B5.out.size
      have hKT := (Kept.refl w6 (fun k => k = g)).setCell (p := ⟨g, i * 2, none⟩) (.inl rfl) (.slice A6 s.f0.length c6)
      -- v6's blocks: elder ones of the row, or new
      have hN6 := Kd.R_mono (ok' := fun k => (OKN ok w k ∧ k ≠ g1 ∧ k ≠ g2) ∧ k ≠ g ∧ some k ≠ vt.ownBlock) N6.out (fun k hk => by
        rcases hk with ⟨hk, _⟩ | hk
        · exact ⟨hk.1.1.1, fun e => hk.2 (by rw [e]; rfl), hk.1.1.2⟩
        · exact ⟨⟨.inr (by omega), by omega, by omega⟩, by omega, fun e => by have := (V5.out k e.symm).2; omega⟩)
      by_cases hit : i = t
      · have hR7 := (Kd.R_seg (R_Qt (vt' := .slice A6 s.f0.length c6) (Kd.R_mono (ok' := OKC ok w g1 g2 (.slice A6 s.f0.length c6)) hO6 (fun k hk => ⟨hk.1.1, fun e => by have := hv6 k e.symm; have := hk.2; omega⟩)) (tags_no2 (Nat.le_of_eq hit))) (i : Int) hi0 hi1 (c := [.slice As s.f0.length cs, .int .i64 s.f1]) (seg := [.slice A6 s.f0.length c6]) (j := 0) rfl hcc (show 0 + 1 ≤ 2 by decide) (x' := (s, 2)) (okp := fun _ => False) (.inr ⟨rfl, rfl, rfl⟩) (fun _ h => h.elim)).1
        have hlt := (List.getElem?_eq_some_iff.1 HSI.out)
        have htn := tags_next (t := t) (i := i) HI2.out
        rw [if_pos hit, hlt.2] at htn
        have R7 := Aside0.mk (show Kd.R (kQ (.slice A6 s.f0.length c6)) 64 (w6.setCell ⟨g, i * 2, none⟩ (.slice A6 s.f0.length c6)) N (OKC ok w g1 g2 (.slice A6 s.f0.length c6)) (.slice (some ⟨g, 0, none⟩) l.length cap) (tags t (i + 1) l) by rw [← htn]; exact hR7)
        have hrd : rd_T64 l (t : Int) = s := by rw [← hit, rd_at HI2.out]; exact hlt.2
        have T7 := Aside0.mk (show t < i + 1 → Kd.R k35 35 (w6.setCell ⟨g, i * 2, none⟩ (.slice A6 s.f0.length c6)) N (fun k => (OKN ok w k ∧ k ≠ g1 ∧ k ≠ g2) ∧ k ≠ g) (.slice A6 s.f0.length c6) (rd_T64 l (t : Int)).f0 from fun _ => by
          rw [hrd]
          exact Kd.R_kept (Kd.R_mono hN6 (fun k hk => ⟨hk.1, hk.2.1⟩)) hKT (fun k hk e => hk.2 e))
        have V7 := Aside0.mk (show ∀ k, (Value.slice A6 s.f0.length c6).ownBlock = some k → w.heap.size ≤ k ∧ k < (w6.setCell ⟨g, i * 2, none⟩ (.slice A6 s.f0.length c6)).heap.size from fun k e => ⟨by have := hv6 k e; omega, Nat.lt_of_lt_of_le (Kd.R_lt N6.out k e) hw6⟩)
        have B7 := Aside0.mk hB7; have P7 := Aside0.mk hP7; have Q7 := Aside0.mk hQ7
        clear hO6 hP6 hQ6 hg hv6 hcc hB7 hP7 hQ7 hw6 hle hg1 hg2 hdr hwb hKT hN6 hit hR7 hlt htn hrd hi0 hi1
        go_wp2_with fail
        go_roundg (gk - 1)
        case measure => have := NK.out.2; omega
        case rel => exact ⟨i + 1, _, by (first | rw [b2] | rfl), ⟨NK.out.1⟩, B7, P7, Q7, R7, V7, T7⟩
      · have hR7 := (Kd.R_seg (Kd.R_mono (ok' := OKC ok w g1 g2 vt) hO6 (fun k hk => hk.1)) (i : Int) hi0 hi1 (c := [.slice As s.f0.length cs, .int .i64 s.f1]) (seg := [.slice A6 s.f0.length c6]) (j := 0) rfl hcc (show 0 + 1 ≤ 2 by decide) (x' := (s, 1)) (okp := fun k => (OKN ok w k ∧ k ≠ g1 ∧ k ≠ g2) ∧ k ≠ g ∧ some k ≠ vt.ownBlock) (.inl ⟨by show (1 : Nat) ≠ 2; decide, k64_mkM w6 N _ s hN6⟩) (fun k e => ⟨⟨e.1, e.2.2⟩, e.2.1⟩)).1
        have hlt := (List.getElem?_eq_some_iff.1 HSI.out)
        have htn := tags_next (t := t) (i := i) HI2.out
        rw [if_neg hit, hlt.2] at htn
        have R7 := Aside0.mk (show Kd.R (kQ vt) 64 (w6.setCell ⟨g, i * 2, none⟩ (.slice A6 s.f0.length c6)) N (OKC ok w g1 g2 vt) (.slice (some ⟨g, 0, none⟩) l.length cap) (tags t (i + 1) l) by rw [← htn]; exact hR7)
        have T7 := Aside0.mk (show t < i + 1 → Kd.R k35 35 (w6.setCell ⟨g, i * 2, none⟩ (.slice A6 s.f0.length c6)) N (fun k => (OKN ok w k ∧ k ≠ g1 ∧ k ≠ g2) ∧ k ≠ g) vt (rd_T64 l (t : Int)).f0 from fun h => Kd.R_kept (Kd.R_below (T5.out (by omega)) HB6.out) hKT (fun k hk e => hk.2 e))
        have V7 := Aside0.mk (show ∀ k, vt.ownBlock = some k → w.heap.size ≤ k ∧ k < (w6.setCell ⟨g, i * 2, none⟩ (.slice A6 s.f0.length c6)).heap.size from fun k e => by have := V5.out k e; omega)
        have B7 := Aside0.mk hB7; have P7 := Aside0.mk hP7; have Q7 := Aside0.mk hQ7
        clear hO6 hP6 hQ6 hg hv6 hcc hB7 hP7 hQ7 hw6 hle hg1 hg2 hdr hwb hKT hN6 hit hR7 hlt htn hi0 hi1
        go_wp2_with fail
        go_roundg (gk - 1)
        case measure => have := NK.out.2; omega
        case rel => exact ⟨i + 1, _, by (first | rw [b2] | rfl), ⟨NK.out.1⟩, B7, P7, Q7, R7, V7, T7⟩
    have d1 : decide ((i : Int) < (l.length : Int)) = false := decide_eq_false (by omega)
    have d2 : decide (i < l.length) = false := decide_eq_false hi
    have d3 : (i < l.length) = False := eq_false hi
    obtain rfl : i = l.length := by have := HI.out; omega
    have B6 := Aside0.mk B5.out; have P6 := Aside0.mk P5.out; have Q6 := Aside0.mk Q5.out; have O6 := Aside0.mk O5.out; have T6 := Aside0.mk (T5.out HT.out); have V6 := Aside0.mk (fun k e => (V5.out k e).1)
    clear hi HI B5 P5 Q5 O5 V5 T5
    generalize wr = w6 at B6 P6 Q6 O6 T6 ⊢
    have xc0 : w6.cell? ⟨g1, 0, none⟩ = some (.int .i64 me) := (blk_cell P6.out 0).trans rfl; have xf0 := blk_frozen P6.out 0; have xc1 : w6.cell? ⟨g1, 1, none⟩ = some (.slice (some ⟨g, 0, none⟩) l.length cap) := (blk_cell P6.out 1).trans rfl; have xf1 := blk_frozen P6.out 1; have yc0 : w6.cell? ⟨g2, 0, none⟩ = some (.int .i64 0) := (blk_cell Q6.out 0).trans rfl; have yf0 := blk_frozen Q6.out 0; have yc1 : w6.cell? ⟨g2, 1, none⟩ = some (.slice none 0 0) := (blk_cell Q6.out 1).trans rfl; have yf1 := blk_frozen Q6.out 1
    go_wp2_with fail
    refine bodyPost_ret (results_single rfl (.cell g2 55 #[.int .i64 me, .slice (some ⟨g, 0, none⟩) l.length cap] (0, 0) _ rfl (blk_put (blk_put Q6.out 0 (.int .i64 me) (cs' := #[.int .i64 me, .slice none 0 0]) rfl) 1 (.slice (some ⟨g, 0, none⟩) l.length cap) (cs' := #[.int .i64 me, .slice (some ⟨g, 0, none⟩) l.length cap]) rfl) Try.underlying55 rfl (by kernel_rfl) .nil)) rfl ?_
    exact ⟨g, cap, vt, rfl, G3.out.1, V6.out, Kd.R_mono (Kd.R_kept O6.out (((Kept.refl w6 (fun k => k = g2)).setCell (p := ⟨g2, 0, none⟩) (.inl rfl) (.int .i64 me)).setCell (p := ⟨g2, 1, none⟩) (.inl rfl) (.slice (some ⟨g, 0, none⟩) l.length cap)) (fun k hk e => hk.1.2.2 e)) (fun k hk => ⟨hk.1.1, hk.2⟩), Kd.R_mono (Kd.R_kept T6.out (((Kept.refl w6 (fun k => k = g2)).setCell (p := ⟨g2, 0, none⟩) (.inl rfl) (.int .i64 me)).setCell (p := ⟨g2, 1, none⟩) (.inl rfl) (.slice (some ⟨g, 0, none⟩) l.length cap)) (fun k hk e => hk.1.2.2 e)) (fun k hk => ⟨hk.1.1, hk.2⟩), (below_setB (below_setB B6.out (p := ⟨g2, 0, none⟩) G2.out.1 (.int .i64 me)) (p := ⟨g2, 1, none⟩) G2.out.1 (.slice (some ⟨g, 0, none⟩) l.length cap))⟩
end Go.Proofs.Ythgdojaildccaaa.M
