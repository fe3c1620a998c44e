/-
  LinkOnce, walked by hand: packets that come in any order, lost, or twice: all is heard in order, each once.
-/
import Derived.Test.YthgdojaildccaaaOLink5
import Derived.Test.YthgdojaildccaaaHSame
import Derived.Test.YthgdojaildccaaaRowLinkOnce
namespace Go.Proofs.Ythgdojaildccaaa.Pure
open Go.RowKit Go.Proofs.Ythgdojaildccaaa.M Go.Proofs.YthgdojaildccaaaW.PrintWords Go.Proofs.YthgdojaildccaaaW.PrintLast Go.Proofs.YthgdojaildccaaaW.PrintMore
set_option linter.unusedVariables false
set_option linter.unusedSimpArgs false
theorem fitM_of {x : S35} (h : G35 x) : FitM x := by
  have h8 := h.2.2.2.2.2.2.2.2.1.1
  have h9 := h.2.2.2.2.2.2.2.2.2.1
  unfold FitM
  omega
/-- who has said l, to node 1 -/
def sL (l : List S35) : List S64 := [z64, ⟨l, 0⟩]
/-- who has heard n, of node 0 -/
def hL (n : Nat) : List S64 := [⟨[], (n : Int)⟩, z64]
theorem sL_say (l : List S35) (m : S35) : sayL (sL l) 1 m = sL (l ++ [m]) := rfl
theorem hL_hear (n : Nat) : hearL (hL n) 0 = hL (n + 1) := rfl
theorem sL_zero : List.replicate 2 z64 = sL [] := rfl
theorem hL_zero : List.replicate 2 z64 = hL 0 := rfl
theorem fit_sL {l : List S35} (h : l.length ≤ 4096) : FitL (sL l) := ⟨by show 2 ≤ 9; decide, fun x hx => by
  rcases List.mem_cons.1 hx with rfl | hx
  · exact ⟨by decide, by decide, by decide⟩
  · rw [List.mem_singleton.1 hx]; exact ⟨h, Int.le_refl 0, by show (0 : Int) ≤ 1000000; decide⟩⟩
theorem fit_hL {n : Nat} (h : n ≤ 1000) : FitL (hL n) := ⟨by show 2 ≤ 9; decide, fun x hx => by
  rcases List.mem_cons.1 hx with rfl | hx
  · exact ⟨by show 0 ≤ 4096; decide, by show (0 : Int) ≤ (n : Int); omega, by show (n : Int) ≤ 1000000; omega⟩
  · rw [List.mem_singleton.1 hx]; exact ⟨by decide, by decide, by decide⟩⟩
theorem take_rd {l : List S35} {w k : Nat} (h : k < (l.take w).length) : rd_T35 (l.take w) (k : Int) = rd_T35 l (k : Int) := by
  have h2 : k < l.length := by rw [List.length_take] at h; omega
  rw [rd35_at h, rd35_at h2]; simp
theorem pack_max {l : List S35} {k : Nat} (h : k ≤ l.length) : ((if (1 : Int) < ((l.length - k : Nat) : Int) then ((l.length - k : Nat) : Int) else 1) : Int) = ((packL 0 ((1 : Nat) : Int) ⟨l, 0⟩ k).length : Int) := by
  unfold packL
  by_cases h0 : k < l.length
  · rw [if_pos h0, pkFrom_len, List.length_drop]
    show _ = ((l.length - k : Nat) : Int)
    split <;> omega
  · rw [if_neg h0]
    simp only [List.length_singleton]
    split <;> omega
theorem mx_nat (k : Nat) : mx 0 (k : Int) = (k : Int) := by unfold mx; split <;> omega
theorem pack_len {l : List S35} (h : 0 < l.length) : (packL 0 ((1 : Nat) : Int) ⟨l, 0⟩ 0).length = l.length := by
  unfold packL; rw [if_pos h, pkFrom_len, List.drop_zero]
theorem pack_at {l : List S35} {j : Nat} (h : j < l.length) : (packL 0 ((1 : Nat) : Int) ⟨l, 0⟩ 0).getD j z37 = ⟨0, 1, ((j : Int) + 1), 0, rd_T35 l (j : Int)⟩ := by
  have h0 : 0 < l.length := by omega
  rw [rd35_at h]
  unfold packL
  rw [if_pos h0, List.drop_zero]
  simp [pkFrom, List.getD_eq_getElem?_getD, h]
theorem take_next35 {l : List S35} {i : Nat} (h : i < l.length) : l.take (i + 1) = l.take i ++ [rd_T35 l (i : Int)] := by
  rw [rd35_at h, List.take_append_getElem h]
/-- a box with sessions: me, and l, from N on, in no box -/
def LBox (N : Nat) (ok : Nat → Prop) (W : World) (g : Nat) (me : Int) (l : List S64) (A : Option Addr) (c : Nat) : Prop :=
  W.heap[g]? = some (.cells #[.int .i64 me, .slice A l.length c] 55 (0, 0)) ∧ Kd.R k64 64 W N ok (.slice A l.length c) l
theorem ok_type {W : World} {N : Nat} {ok : Nat → Prop} {v : Value} {xs : List S35} {k : Nat} (h : Kd.R k35 35 W N ok v xs) (hq : ∃ q, q ∈ k35.E ∧ ∃ cells, W.heap[k]? = some (.cells cells q (0, 0))) : some k ≠ v.ownBlock := fun e => by
  obtain ⟨cells, hc⟩ := Kd.R_typed h k e.symm
  obtain ⟨q, hq, c2, h2⟩ := hq
  rw [hc] at h2
  injection h2 with h2
  injection h2 with _ h2 _
  rw [← h2] at hq
  exact absurd hq (by decide)
theorem LBox.below {N : Nat} {ok : Nat → Prop} {W W' : World} {g : Nat} {me : Int} {l : List S64} {A : Option Addr} {c : Nat} (h : LBox N ok W g me l A c) (hb : Below W.heap.size W W') : LBox N ok W' g me l A c := ⟨blk_below h.1 hb, Kd.R_below h.2 hb⟩
theorem LBox.mono_ {N : Nat} {ok ok' : Nat → Prop} {W : World} {g : Nat} {me : Int} {l : List S64} {A : Option Addr} {c : Nat} (h : LBox N ok W g me l A c) (hok : ∀ k, ok k → ok' k) : LBox N ok' W g me l A c := ⟨h.1, Kd.R_mono h.2 hok⟩
/-- another box is written -/
theorem LBox.far {N : Nat} {ok : Nat → Prop} {W : World} {g g' : Nat} {me : Int} {l : List S64} {A : Option Addr} {c : Nat} (h : LBox N ok W g me l A c) (hg : g ≠ g') (hok : ∀ k, ok k → k ≠ g') (u0 u1 : Value) : LBox N ok ((W.setCell ⟨g', 0, none⟩ u0).setCell ⟨g', 1, none⟩ u1) g me l A c :=
  ⟨blk_far (blk_far h.1 (p := ⟨g', 0, none⟩) hg u0) (p := ⟨g', 1, none⟩) hg u1, Kd.R_kept h.2 (((Kept.refl W (fun k => k = g')).setCell (p := ⟨g', 0, none⟩) (.inl rfl) u0).setCell (p := ⟨g', 1, none⟩) (.inl rfl) u1) (fun k hk e => hok k hk e)⟩
/-- it is written itself -/
theorem LBox.put {N : Nat} {ok : Nat → Prop} {W : World} {g : Nat} {me me' : Int} {l l' : List S64} {A A' : Option Addr} {c c' : Nat} (h : W.heap[g]? = some (.cells #[.int .i64 me, .slice A l.length c] 55 (0, 0))) (hR : Kd.R k64 64 W N ok (.slice A' l'.length c') l') (hok : ∀ k, ok k → k ≠ g) :
    LBox N ok ((W.setCell ⟨g, 0, none⟩ (.int .i64 me')).setCell ⟨g, 1, none⟩ (.slice A' l'.length c')) g me' l' A' c' :=
  ⟨blk_put (blk_put h 0 (.int .i64 me') (cs' := #[.int .i64 me', .slice A l.length c]) rfl) 1 (.slice A' l'.length c') (cs' := #[.int .i64 me', .slice A' l'.length c']) rfl, Kd.R_kept hR (((Kept.refl W (fun k => k = g)).setCell (p := ⟨g, 0, none⟩) (.inl rfl) _).setCell (p := ⟨g, 1, none⟩) (.inl rfl) _) (fun k hk e => hok k hk e)⟩
attribute [local go_sem] max2_int min2_int max_two min_two
def OKG (g5 g7 : Nat) (v : Value) (k : Nat) : Prop := (k ≠ g5 ∧ k ≠ g7) ∧ some k ≠ v.ownBlock
/-- v has grown: what lay apart from it still does -/
theorem okg_R {α : Type} {d : Kd α} {e N g5 g7 : Nat} {W W1 : World} {v v1 u : Value} {xs : List α} (h : Kd.R d e W N (OKG g5 g7 v) u xs) (hg : W.grownBy W1 v.ownBlock) (hat : v1.ownBlock = v.ownBlock ∨ ∃ b, v1.ownBlock = some b ∧ W.heap.size ≤ b) : Kd.R d e W1 N (OKG g5 g7 v1) u xs := by
  have h1 := Kd.R_mono (ok' := fun k => OKG g5 g7 v k ∧ k < W.heap.size) (Kd.R_bound h) (fun k hk => ⟨hk.1, hk.2.2.1⟩)
  refine Kd.R_mono (Kd.R_grown h1 hg (fun k hk => hk.1.2)) (fun k hk => ⟨hk.1.1, fun e => ?_⟩)
  rcases hat with hat | ⟨b, hb, hl⟩
  · rw [hat] at e; exact hk.1.2 e
  · rw [hb] at e; injection e with e; have := hk.2; omega
theorem LBox.app {N g5 g7 : Nat} {W W1 : World} {g : Nat} {me : Int} {l : List S64} {A : Option Addr} {c : Nat} {v v1 : Value} (h : LBox N (OKG g5 g7 v) W g me l A c) (hg : W.grownBy W1 v.ownBlock) (hat : v1.ownBlock = v.ownBlock ∨ ∃ b, v1.ownBlock = some b ∧ W.heap.size ≤ b) (hne : some g ≠ v.ownBlock) : LBox N (OKG g5 g7 v1) W1 g me l A c :=
  ⟨blk_grown h.1 hg hne, okg_R h.2 hg hat⟩
theorem okn_of {ok : Nat → Prop} {W : World} {N : Nat} {v : Value} {l : List S64} {W' : World} (h : Kd.R k64 64 W' N (OKN ok W) v l) (hn : ∀ k, W.heap.size ≤ k → ok k) : Kd.R k64 64 W' N ok v l := Kd.R_mono h (fun k hk => by rcases hk with ⟨h, _⟩ | h; (exact h); (exact hn k h))
set_option maxHeartbeats 8000000 in
set_option maxRecDepth 100000 in
theorem LinkOnce_hand (A0 : Option Addr) (c0 : Nat) (l0 : List S35) (A1 : Option Addr) (c1 : Nat) (l1 : List Int) (w : World) (hr : Kd.C k35 w A0 l0.length l0) (hc : l0.length ≤ c0) (hr1 : Kd.C (Kd.int .i64) w A1 l1.length l1) (hc1 : l1.length ≤ c1) (g0 : l0.length * 120 ≤ 140737488351232 ∧ ∀ x ∈ l0, G35 x) (g1 : l1.length * 8 ≤ 140737488351232 ∧ ∀ x ∈ l1, (Lit.int .i64 x).wf = true) :
    Calls Try.prog 8 #[.slice A0 l0.length c0, .slice A1 l1.length c1] w fun e w' => e = .returned (.bool true) ∧ Below w.heap.size w w' := by
  have HR := Aside0.mk hr; have HR1 := Aside0.mk hr1; have HF := Aside0.mk (show ∀ x ∈ l0, FitM x from fun x hx => fitM_of (g0.2 x hx))
  clear hr hc hr1 hc1 g0 g1
  go_enter Try.func8, Try.ntmps8
  go_wp2_with fail
  refine (speaks_calls w).mono ?_; rintro x w1 ⟨rfl, hb⟩; have B1 := Aside0.mk hb; clear hb
  by_cases hu : l0.length > 30
  · have d1 : decide (30 < (l0.length : Int)) = true := decide_eq_true (by omega)
    have d2 : decide (30 < l0.length) = true := decide_eq_true hu
    have d3 : (30 < l0.length) = True := eq_true hu
    clear hu
    go_wp2_with fail
    go_ret
    exact ⟨rfl, B1.out⟩
  have u1 : decide (30 < (l0.length : Int)) = false := decide_eq_false (by omega)
  have u2 : decide (30 < l0.length) = false := decide_eq_false hu
  have u3 : (30 < l0.length) = False := eq_false hu
  by_cases hv : l1.length > 200
  · have d1 : decide (200 < (l1.length : Int)) = true := decide_eq_true (by omega)
    have d2 : decide (200 < l1.length) = true := decide_eq_true hv
    have d3 : (200 < l1.length) = True := eq_true hv
    clear hv
    go_wp2_with fail
    go_ret
    exact ⟨rfl, B1.out⟩
  have v1 : decide (200 < (l1.length : Int)) = false := decide_eq_false (by omega)
  have v2 : decide (200 < l1.length) = false := decide_eq_false hv
  have v3 : (200 < l1.length) = False := eq_false hv
  have H30 := Aside0.mk (show l0.length ≤ 30 by omega); have H200 := Aside0.mk (show l1.length ≤ 200 by omega)
  clear hu hv
  go_wp2_with fail
  refine (links_New (me := 0) (nodes := 2) (by decide) (by decide) w1).mono ?_; rintro x w2 ⟨A2, c2, rfl, hR, hb⟩
  have B2 := Aside0.mk (below_step B1.out hb); have R2 := Aside0.mk (Kd.R_bound (Kd.R_lower hR B1.out.size))
  clear hb hR u1 u2 u3 v1 v2 v3
  dsimp only
  go_wp2_with (first | ((with_reducible refine gate_dst (N := 5) rfl ?_); refine box_event ?hg (N := 5) ?hd (cs := #[.int .i64 0, .slice none 0 0]) (t := 55) ?hr ?_; (case hd => rfl); (case hg => rfl); (case hr => first | (go_simp; done) | (go_simp; rfl)); intro g5 hg w3 hbox hb; have ZB := Aside0.mk hb; have ZX := Aside0.mk hbox; have Z5 := Aside0.mk (show w2.heap.size ≤ g5 from by rw [hg]; exact Nat.le_refl _); have zc0 : w3.cell? ⟨g5, 0, none⟩ = some (.int .i64 0) := (blk_cell ZX.out 0).trans rfl; have zf0 := blk_frozen ZX.out 0; have zc1 : w3.cell? ⟨g5, 1, none⟩ = some (.slice none 0 0) := (blk_cell ZX.out 1).trans rfl; have zf1 := blk_frozen ZX.out 1; clear hb hg hbox))
  have B4 := Aside0.mk (below_setB (below_setB (below_step B2.out ZB.out) (p := ⟨g5, 0, none⟩) (Nat.le_trans B2.out.size Z5.out) (.int .i64 0)) (p := ⟨g5, 1, none⟩) (Nat.le_trans B2.out.size Z5.out) (.slice A2 2 c2))
  have X4 := Aside0.mk (show LBox w.heap.size (fun k => k ≠ g5 ∧ k < w3.heap.size) ((w3.setCell ⟨g5, 0, none⟩ (.int .i64 0)).setCell ⟨g5, 1, none⟩ (.slice A2 2 c2)) g5 0 (sL []) A2 c2 from LBox.put (l := []) (l' := sL []) ZX.out (Kd.R_mono (Kd.R_below R2.out ZB.out) (fun k hk => ⟨fun e => by subst e; have := hk.2.2.1; have := Z5.out; omega, Nat.lt_of_lt_of_le hk.2.2.1 ZB.out.size⟩)) (fun k hk => hk.1))
  have S4 := Aside0.mk (show w3.heap.size ≤ ((w3.setCell ⟨g5, 0, none⟩ (.int .i64 0)).setCell ⟨g5, 1, none⟩ (.slice A2 2 c2)).heap.size by simp [World.setCell])
  have G5 := Aside0.mk (show w.heap.size ≤ g5 from Nat.le_trans B2.out.size Z5.out)
  clear B2 R2 ZB ZX zc0 zf0 zc1 zf1
  generalize ((w3.setCell ⟨g5, 0, none⟩ (.int .i64 0)).setCell ⟨g5, 1, none⟩ (.slice A2 2 c2)) = w4 at B4 X4 S4 ⊢
  refine (links_New (me := 1) (nodes := 2) (by decide) (by decide) w4).mono ?_; rintro x w5 ⟨A5, c5, rfl, hR, hb⟩
  have B5 := Aside0.mk (below_step B4.out hb); have X5 := Aside0.mk (X4.out.below hb); have R5 := Aside0.mk (Kd.R_bound hR); have S5 := Aside0.mk hb.size
  clear hb hR B4
  dsimp only
  go_wp2_with (first | ((with_reducible refine gate_dst (N := 7) rfl ?_); refine box_event ?hg (N := 7) ?hd (cs := #[.int .i64 0, .slice none 0 0]) (t := 55) ?hr ?_; (case hd => rfl); (case hg => rfl); (case hr => first | (go_simp; done) | (go_simp; rfl)); intro g7 hg w6 hbox hb; have ZB := Aside0.mk hb; have ZX := Aside0.mk hbox; have Z7 := Aside0.mk (show w5.heap.size ≤ g7 from by rw [hg]; exact Nat.le_refl _); have zc0 : w6.cell? ⟨g7, 0, none⟩ = some (.int .i64 0) := (blk_cell ZX.out 0).trans rfl; have zf0 := blk_frozen ZX.out 0; have zc1 : w6.cell? ⟨g7, 1, none⟩ = some (.slice none 0 0) := (blk_cell ZX.out 1).trans rfl; have zf1 := blk_frozen ZX.out 1; clear hb hg hbox) | ((with_reducible refine gate_builtin (b := .len) (xs := #[.tmp 42]) rfl ?_); have B7 := Aside0.mk (below_setB (below_setB (below_step B5.out ZB.out) (p := ⟨g7, 0, none⟩) (Nat.le_trans B5.out.size Z7.out) (.int .i64 1)) (p := ⟨g7, 1, none⟩) (Nat.le_trans B5.out.size Z7.out) (.slice A5 2 c5)); have X7 := Aside0.mk (show LBox w.heap.size (fun k => k ≠ g5 ∧ k ≠ g7) ((w6.setCell ⟨g7, 0, none⟩ (.int .i64 1)).setCell ⟨g7, 1, none⟩ (.slice A5 2 c5)) g5 0 (sL []) A2 c2 from (LBox.mono_ (X5.out.below ZB.out) (fun k hk => ⟨hk.1, fun e => by subst e; have := hk.2; have := Z7.out; have := S4.out; have := S5.out; omega⟩)).far (fun e => by subst e; have := blk_lt X5.out.1; have := Z7.out; omega) (fun k hk => hk.2) _ _); have Y7 := Aside0.mk (show LBox w.heap.size (fun k => k ≠ g5 ∧ k ≠ g7) ((w6.setCell ⟨g7, 0, none⟩ (.int .i64 1)).setCell ⟨g7, 1, none⟩ (.slice A5 2 c5)) g7 1 (hL 0) A5 c5 from LBox.put (l := []) (l' := hL 0) ZX.out (Kd.R_lower (Kd.R_mono (Kd.R_below R5.out ZB.out) (fun k hk => ⟨fun e => by subst e; have := hk.2.1; have := blk_lt X4.out.1; omega, fun e => by subst e; have := hk.2.2.1; have := Z7.out; omega⟩)) (Nat.le_trans G5.out (Nat.le_of_lt (blk_lt X4.out.1)))) (fun k hk => hk.2)); have G7 := Aside0.mk (show g5 < g7 from Nat.lt_of_lt_of_le (blk_lt X5.out.1) Z7.out); clear B5 X4 X5 R5 S4 S5 ZB ZX Z5 Z7 zc0 zf0 zc1 zf1; generalize ((w6.setCell ⟨g7, 0, none⟩ (.int .i64 1)).setCell ⟨g7, 1, none⟩ (.slice A5 2 c5)) = w7 at B7 X7 Y7 ⊢))
  go_loopg [44] (l0.length + 1) (fun kq v44 w' => ∃ (i : Nat) (A : Option Addr) (c : Nat), v44 = .int .i64 (i : Int) ∧ Aside0 (i ≤ l0.length ∧ i + kq = l0.length + 1) ∧ Aside0 (Below w.heap.size w w') ∧ Aside0 (LBox w.heap.size (fun k => k ≠ g5 ∧ k ≠ g7) w' g5 0 (sL (l0.take i)) A c) ∧ Aside0 (LBox w.heap.size (fun k => k ≠ g5 ∧ k ≠ g7) w' g7 1 (hL 0) A5 c5))
  case atStart => exact ⟨0, A2, c2, rfl, ⟨by omega, by omega⟩, B7, X7, Y7⟩
  case round =>
    obtain ⟨i, A, c, rfl, HI, B8, X8, Y8⟩ := hrel
    clear B7 X7 Y7
    by_cases hi : i < l0.length
    · have d1 : decide ((i : Int) < (l0.length : Int)) = true := decide_eq_true (by omega)
      have d2 : decide (i < l0.length) = true := decide_eq_true hi
      have d3 : (i < l0.length) = True := eq_true hi
      have hi0 : (0 : Int) ≤ (i : Int) := by omega
      have hi1 : (i : Int) < (l0.length : Int) := by omega
      obtain ⟨ad, A8, C8, A9, C9, ea, x0, x1, x2, x3, x4, x5, x6, x7, x8, x9, x10, l8, g8, l9, g9⟩ := at_T35 (Kd.C_below HR.out B8.out) (i : Int) hi0 hi1
      have hfit := HF.out _ (show rd_T35 l0 (i : Int) ∈ l0 by rw [rd35_at hi]; exact List.getElem_mem _)
      have htk := take_next35 hi
      subst ea
      obtain ⟨m, hq⟩ : ∃ m, m = rd_T35 l0 (i : Int) := ⟨_, rfl⟩
      rw [← hq] at x0 x1 x2 x3 x4 x5 x6 x7 x8 x9 x10 l8 g8 l9 g9 hfit htk
      rw [Int.toNat_natCast] at x0 x1 x2 x3 x4 x5 x6 x7 x8 x9 x10
      have G8 := Aside0.mk g8; have G9 := Aside0.mk g9; have FT := Aside0.mk hfit; have HTK := Aside0.mk htk
      have b1 : wrap64 ((i : Int) + 1) = ((i + 1 : Nat) : Int) := by have := H30.out; unfold wrap64; omega
      have q1 := eq_true hi0; have q2 := eq_true hi1; have q3 : decide ((0 : Int) ≤ (i : Int)) = true := decide_eq_true hi0
      have NK := Aside0.mk (nkC hi HI.out)
      have HTL := Aside0.mk (show (l0.take i).length < 4096 by rw [List.length_take]; have := H30.out; omega)
      clear hi hi0 hi1 g8 g9 hfit hq l8 l9 htk
      go_wp2_with (first | ((with_reducible refine gate_dst (N := 10) rfl ?_); refine box_event ?hg (N := 10) ?hd (cs := #[.int .i64 0, .int .i64 0, .int .i64 0, .int .i64 0, .int .i64 0, .int .i64 0, .int .i64 0, .int .i64 0, .bool false, .slice none 0 0, .slice none 0 0]) (t := 35) ?hr ?_; (case hd => rfl); (case hg => rfl); (case hr => first | (go_simp; done) | (go_simp; rfl)); intro g10 hg w9m hbox hb; have ZB := Aside0.mk hb; have ZX := Aside0.mk hbox; have M9g := Aside0.mk (show wr.heap.size ≤ g10 from by rw [hg]; exact Nat.le_refl _); have m_zc0 : w9m.cell? ⟨g10, 0, none⟩ = some (.int .i64 0) := (blk_cell ZX.out 0).trans rfl; have m_zf0 := blk_frozen ZX.out 0; have m_zc1 : w9m.cell? ⟨g10, 1, none⟩ = some (.int .i64 0) := (blk_cell ZX.out 1).trans rfl; have m_zf1 := blk_frozen ZX.out 1; have m_zc2 : w9m.cell? ⟨g10, 2, none⟩ = some (.int .i64 0) := (blk_cell ZX.out 2).trans rfl; have m_zf2 := blk_frozen ZX.out 2; have m_zc3 : w9m.cell? ⟨g10, 3, none⟩ = some (.int .i64 0) := (blk_cell ZX.out 3).trans rfl; have m_zf3 := blk_frozen ZX.out 3; have m_zc4 : w9m.cell? ⟨g10, 4, none⟩ = some (.int .i64 0) := (blk_cell ZX.out 4).trans rfl; have m_zf4 := blk_frozen ZX.out 4; have m_zc5 : w9m.cell? ⟨g10, 5, none⟩ = some (.int .i64 0) := (blk_cell ZX.out 5).trans rfl; have m_zf5 := blk_frozen ZX.out 5; have m_zc6 : w9m.cell? ⟨g10, 6, none⟩ = some (.int .i64 0) := (blk_cell ZX.out 6).trans rfl; have m_zf6 := blk_frozen ZX.out 6; have m_zc7 : w9m.cell? ⟨g10, 7, none⟩ = some (.int .i64 0) := (blk_cell ZX.out 7).trans rfl; have m_zf7 := blk_frozen ZX.out 7; have m_zc8 : w9m.cell? ⟨g10, 8, none⟩ = some (.bool false) := (blk_cell ZX.out 8).trans rfl; have m_zf8 := blk_frozen ZX.out 8; have m_zc9 : w9m.cell? ⟨g10, 9, none⟩ = some (.slice none 0 0) := (blk_cell ZX.out 9).trans rfl; have m_zf9 := blk_frozen ZX.out 9; have m_zc10 : w9m.cell? ⟨g10, 10, none⟩ = some (.slice none 0 0) := (blk_cell ZX.out 10).trans rfl; have m_zf10 := blk_frozen ZX.out 10; clear hb hg hbox) | ((with_reducible refine gate_dst (N := 49) rfl ?_); have NB9 := Aside0.mk (below_setB (below_setB (below_setB (below_setB (below_setB (below_setB (below_setB (below_setB (below_setB (below_setB (below_setB ZB.out (p := ⟨g10, 0, none⟩) M9g.out (.int .i64 m.f0)) (p := ⟨g10, 1, none⟩) M9g.out (.int .i64 m.f1.f0)) (p := ⟨g10, 2, none⟩) M9g.out (.int .i64 m.f1.f1)) (p := ⟨g10, 3, none⟩) M9g.out (.int .i64 m.f2)) (p := ⟨g10, 4, none⟩) M9g.out (.int .i64 m.f3)) (p := ⟨g10, 5, none⟩) M9g.out (.int .i64 m.f4)) (p := ⟨g10, 6, none⟩) M9g.out (.int .i64 m.f5)) (p := ⟨g10, 7, none⟩) M9g.out (.int .i64 m.f6)) (p := ⟨g10, 8, none⟩) M9g.out (.bool m.f7)) (p := ⟨g10, 9, none⟩) M9g.out (.slice A8 m.f8.length C8)) (p := ⟨g10, 10, none⟩) M9g.out (.slice A9 m.f9.length C9)); have M9 := Aside0.mk (blk_put (blk_put (blk_put (blk_put (blk_put (blk_put (blk_put (blk_put (blk_put (blk_put (blk_put ZX.out 0 (.int .i64 m.f0) (cs' := #[.int .i64 m.f0, .int .i64 0, .int .i64 0, .int .i64 0, .int .i64 0, .int .i64 0, .int .i64 0, .int .i64 0, .bool false, .slice none 0 0, .slice none 0 0]) rfl) 1 (.int .i64 m.f1.f0) (cs' := #[.int .i64 m.f0, .int .i64 m.f1.f0, .int .i64 0, .int .i64 0, .int .i64 0, .int .i64 0, .int .i64 0, .int .i64 0, .bool false, .slice none 0 0, .slice none 0 0]) rfl) 2 (.int .i64 m.f1.f1) (cs' := #[.int .i64 m.f0, .int .i64 m.f1.f0, .int .i64 m.f1.f1, .int .i64 0, .int .i64 0, .int .i64 0, .int .i64 0, .int .i64 0, .bool false, .slice none 0 0, .slice none 0 0]) rfl) 3 (.int .i64 m.f2) (cs' := #[.int .i64 m.f0, .int .i64 m.f1.f0, .int .i64 m.f1.f1, .int .i64 m.f2, .int .i64 0, .int .i64 0, .int .i64 0, .int .i64 0, .bool false, .slice none 0 0, .slice none 0 0]) rfl) 4 (.int .i64 m.f3) (cs' := #[.int .i64 m.f0, .int .i64 m.f1.f0, .int .i64 m.f1.f1, .int .i64 m.f2, .int .i64 m.f3, .int .i64 0, .int .i64 0, .int .i64 0, .bool false, .slice none 0 0, .slice none 0 0]) rfl) 5 (.int .i64 m.f4) (cs' := #[.int .i64 m.f0, .int .i64 m.f1.f0, .int .i64 m.f1.f1, .int .i64 m.f2, .int .i64 m.f3, .int .i64 m.f4, .int .i64 0, .int .i64 0, .bool false, .slice none 0 0, .slice none 0 0]) rfl) 6 (.int .i64 m.f5) (cs' := #[.int .i64 m.f0, .int .i64 m.f1.f0, .int .i64 m.f1.f1, .int .i64 m.f2, .int .i64 m.f3, .int .i64 m.f4, .int .i64 m.f5, .int .i64 0, .bool false, .slice none 0 0, .slice none 0 0]) rfl) 7 (.int .i64 m.f6) (cs' := #[.int .i64 m.f0, .int .i64 m.f1.f0, .int .i64 m.f1.f1, .int .i64 m.f2, .int .i64 m.f3, .int .i64 m.f4, .int .i64 m.f5, .int .i64 m.f6, .bool false, .slice none 0 0, .slice none 0 0]) rfl) 8 (.bool m.f7) (cs' := #[.int .i64 m.f0, .int .i64 m.f1.f0, .int .i64 m.f1.f1, .int .i64 m.f2, .int .i64 m.f3, .int .i64 m.f4, .int .i64 m.f5, .int .i64 m.f6, .bool m.f7, .slice none 0 0, .slice none 0 0]) rfl) 9 (.slice A8 m.f8.length C8) (cs' := #[.int .i64 m.f0, .int .i64 m.f1.f0, .int .i64 m.f1.f1, .int .i64 m.f2, .int .i64 m.f3, .int .i64 m.f4, .int .i64 m.f5, .int .i64 m.f6, .bool m.f7, .slice A8 m.f8.length C8, .slice none 0 0]) rfl) 10 (.slice A9 m.f9.length C9) (cs' := #[.int .i64 m.f0, .int .i64 m.f1.f0, .int .i64 m.f1.f1, .int .i64 m.f2, .int .i64 m.f3, .int .i64 m.f4, .int .i64 m.f5, .int .i64 m.f6, .bool m.f7, .slice A8 m.f8.length C8, .slice A9 m.f9.length C9]) rfl); clear ZB ZX m_zc0 m_zf0 m_zc1 m_zf1 m_zc2 m_zf2 m_zc3 m_zf3 m_zc4 m_zf4 m_zc5 m_zf5 m_zc6 m_zf6 m_zc7 m_zf7 m_zc8 m_zf8 m_zc9 m_zf9 m_zc10 m_zf10; generalize (((((((((((w9m.setCell ⟨g10, 0, none⟩ (.int .i64 m.f0)).setCell ⟨g10, 1, none⟩ (.int .i64 m.f1.f0)).setCell ⟨g10, 2, none⟩ (.int .i64 m.f1.f1)).setCell ⟨g10, 3, none⟩ (.int .i64 m.f2)).setCell ⟨g10, 4, none⟩ (.int .i64 m.f3)).setCell ⟨g10, 5, none⟩ (.int .i64 m.f4)).setCell ⟨g10, 6, none⟩ (.int .i64 m.f5)).setCell ⟨g10, 7, none⟩ (.int .i64 m.f6)).setCell ⟨g10, 8, none⟩ (.bool m.f7)).setCell ⟨g10, 9, none⟩ (.slice A8 m.f8.length C8)).setCell ⟨g10, 10, none⟩ (.slice A9 m.f9.length C9)) = w9 at NB9 M9 ⊢; have B9 := Aside0.mk (below_step B8.out NB9.out); have X9 := Aside0.mk (X8.out.below NB9.out); have Y9 := Aside0.mk (Y8.out.below NB9.out); have N8 := Aside0.mk (Kd.C_below G8.out NB9.out); have N9 := Aside0.mk (Kd.C_below G9.out NB9.out); have yc0 : w9.cell? ⟨g5, 0, none⟩ = some (.int .i64 0) := (blk_cell X9.out.1 0).trans rfl; have yf0 := blk_frozen X9.out.1 0; have yc1 : w9.cell? ⟨g5, 1, none⟩ = some (.slice A 2 c) := (blk_cell X9.out.1 1).trans rfl; have yf1 := blk_frozen X9.out.1 1; have m_c0 : w9.cell? ⟨g10, 0, none⟩ = some (.int .i64 m.f0) := (blk_cell M9.out 0).trans rfl; have m_f0 := blk_frozen M9.out 0; have m_c1 : w9.cell? ⟨g10, 1, none⟩ = some (.int .i64 m.f1.f0) := (blk_cell M9.out 1).trans rfl; have m_f1 := blk_frozen M9.out 1; have m_c2 : w9.cell? ⟨g10, 2, none⟩ = some (.int .i64 m.f1.f1) := (blk_cell M9.out 2).trans rfl; have m_f2 := blk_frozen M9.out 2; have m_c3 : w9.cell? ⟨g10, 3, none⟩ = some (.int .i64 m.f2) := (blk_cell M9.out 3).trans rfl; have m_f3 := blk_frozen M9.out 3; have m_c4 : w9.cell? ⟨g10, 4, none⟩ = some (.int .i64 m.f3) := (blk_cell M9.out 4).trans rfl; have m_f4 := blk_frozen M9.out 4; have m_c5 : w9.cell? ⟨g10, 5, none⟩ = some (.int .i64 m.f4) := (blk_cell M9.out 5).trans rfl; have m_f5 := blk_frozen M9.out 5; have m_c6 : w9.cell? ⟨g10, 6, none⟩ = some (.int .i64 m.f5) := (blk_cell M9.out 6).trans rfl; have m_f6 := blk_frozen M9.out 6; have m_c7 : w9.cell? ⟨g10, 7, none⟩ = some (.int .i64 m.f6) := (blk_cell M9.out 7).trans rfl; have m_f7 := blk_frozen M9.out 7; have m_c8 : w9.cell? ⟨g10, 8, none⟩ = some (.bool m.f7) := (blk_cell M9.out 8).trans rfl; have m_f8 := blk_frozen M9.out 8; have m_c9 : w9.cell? ⟨g10, 9, none⟩ = some (.slice A8 m.f8.length C8) := (blk_cell M9.out 9).trans rfl; have m_f9 := blk_frozen M9.out 9; have m_c10 : w9.cell? ⟨g10, 10, none⟩ = some (.slice A9 m.f9.length C9) := (blk_cell M9.out 10).trans rfl; have m_f10 := blk_frozen M9.out 10))
      refine (links_Say (t := 1) (l := sL (l0.take i)) (m := m) (A8 := A8) (C8 := C8) (A9 := A9) (C9 := C9) rfl B9.out.size X9.out.2 (fit_sL (Nat.le_of_lt HTL.out)) (show 1 < 2 by decide) (by decide) HTL.out N8.out N9.out FT.out).mono ?_
      rintro x w10 ⟨A10, c10, rfl, hR, hb⟩
      rw [sL_say, ← HTK.out] at hR
      have R10 := Aside0.mk (okn_of hR (fun k hk => ⟨fun e => by subst e; exact absurd (blk_lt X9.out.1) (Nat.not_lt.mpr hk), fun e => by subst e; exact absurd (blk_lt Y9.out.1) (Nat.not_lt.mpr hk)⟩))
      have B10 := Aside0.mk (below_step B9.out hb); have X10 := Aside0.mk (X9.out.below hb); have Y10 := Aside0.mk (Y9.out.below hb)
      rw [show (sL (l0.take i)).length = 2 from rfl]
      clear hb hR B9 X9 Y9 N8 N9 NB9 M9 m_c0 m_f0 m_c1 m_f1 m_c2 m_f2 m_c3 m_f3 m_c4 m_f4 m_c5 m_f5 m_c6 m_f6 m_c7 m_f7 m_c8 m_f8 m_c9 m_f9 m_c10 m_f10 yc0 yf0 yc1 yf1
      dsimp only
      go_wp2_with (first | ((with_reducible refine gate_dst (N := 11) rfl ?_); refine box_event ?hg (N := 11) ?hd (cs := #[.int .i64 0, .slice none 0 0]) (t := 55) ?hr ?_; (case hd => rfl); (case hg => rfl); (case hr => first | (go_simp; done) | (go_simp; rfl)); intro g11 hg w11m hbox hb; have ZB := Aside0.mk hb; have ZX := Aside0.mk hbox; have M11g := Aside0.mk (show w10.heap.size ≤ g11 from by rw [hg]; exact Nat.le_refl _); have m_zc0 : w11m.cell? ⟨g11, 0, none⟩ = some (.int .i64 0) := (blk_cell ZX.out 0).trans rfl; have m_zf0 := blk_frozen ZX.out 0; have m_zc1 : w11m.cell? ⟨g11, 1, none⟩ = some (.slice none 0 0) := (blk_cell ZX.out 1).trans rfl; have m_zf1 := blk_frozen ZX.out 1; clear hb hg hbox) | ((with_reducible refine gate_dst (N := 55) rfl ?_); have NB11 := Aside0.mk (below_setB (below_setB ZB.out (p := ⟨g11, 0, none⟩) M11g.out (.int .i64 0)) (p := ⟨g11, 1, none⟩) M11g.out (.slice A10 2 c10)); have M11 := Aside0.mk (blk_put (blk_put ZX.out 0 (.int .i64 0) (cs' := #[.int .i64 0, .slice none 0 0]) rfl) 1 (.slice A10 2 c10) (cs' := #[.int .i64 0, .slice A10 2 c10]) rfl); clear ZB ZX m_zc0 m_zf0 m_zc1 m_zf1; generalize ((w11m.setCell ⟨g11, 0, none⟩ (.int .i64 0)).setCell ⟨g11, 1, none⟩ (.slice A10 2 c10)) = w11 at NB11 M11 ⊢; have B11 := Aside0.mk (below_step B10.out NB11.out); have X11 := Aside0.mk (X10.out.below NB11.out); have Y11 := Aside0.mk (Y10.out.below NB11.out); have R11 := Aside0.mk (Kd.R_below R10.out NB11.out); have yc0 : w11.cell? ⟨g5, 0, none⟩ = some (.int .i64 0) := (blk_cell X11.out.1 0).trans rfl; have yf0 := blk_frozen X11.out.1 0; have yc1 : w11.cell? ⟨g5, 1, none⟩ = some (.slice A 2 c) := (blk_cell X11.out.1 1).trans rfl; have yf1 := blk_frozen X11.out.1 1; have m_c0 : w11.cell? ⟨g11, 0, none⟩ = some (.int .i64 0) := (blk_cell M11.out 0).trans rfl; have m_f0 := blk_frozen M11.out 0; have m_c1 : w11.cell? ⟨g11, 1, none⟩ = some (.slice A10 2 c10) := (blk_cell M11.out 1).trans rfl; have m_f1 := blk_frozen M11.out 1) | ((with_reducible refine gate_dst (N := 57) rfl ?_); have B12 := Aside0.mk (below_setB (below_setB B11.out (p := ⟨g5, 0, none⟩) G5.out (.int .i64 0)) (p := ⟨g5, 1, none⟩) G5.out (.slice A10 2 c10)); have X12 := Aside0.mk (show LBox w.heap.size (fun k => k ≠ g5 ∧ k ≠ g7) ((w11.setCell ⟨g5, 0, none⟩ (.int .i64 0)).setCell ⟨g5, 1, none⟩ (.slice A10 2 c10)) g5 0 (sL (l0.take (i + 1))) A10 c10 from LBox.put (l := sL (l0.take i)) (l' := sL (l0.take (i + 1))) X11.out.1 R11.out (fun k hk => hk.1)); have Y12 := Aside0.mk (show LBox w.heap.size (fun k => k ≠ g5 ∧ k ≠ g7) ((w11.setCell ⟨g5, 0, none⟩ (.int .i64 0)).setCell ⟨g5, 1, none⟩ (.slice A10 2 c10)) g7 1 (hL 0) A5 c5 from Y11.out.far (Nat.ne_of_gt G7.out) (fun k hk => hk.1) _ _); clear B11 X11 Y11 R11 NB11 M11 m_c0 m_f0 m_c1 m_f1 yc0 yf0 yc1 yf1; generalize ((w11.setCell ⟨g5, 0, none⟩ (.int .i64 0)).setCell ⟨g5, 1, none⟩ (.slice A10 2 c10)) = w12 at B12 X12 Y12 ⊢))
      go_roundg (gk - 1)
      case measure => have := NK.out.2; omega
      case rel => exact ⟨i + 1, A10, c10, by (first | rw [b1] | rfl), ⟨NK.out.1⟩, B12, X12, Y12⟩
    have d1 : decide ((i : Int) < (l0.length : Int)) = false := decide_eq_false (by omega)
    have d2 : decide (i < l0.length) = false := decide_eq_false hi
    have d3 : (i < l0.length) = False := eq_false hi
    have X9 := Aside0.mk (show LBox w.heap.size (fun k => k ≠ g5 ∧ k ≠ g7) wr g5 0 (sL l0) A c by have := X8.out; rwa [List.take_of_length_le (Nat.not_lt.mp hi)] at this); have Y9 := Aside0.mk Y8.out; have B9 := Aside0.mk B8.out
    clear hi HI B8 X8 Y8
    generalize wr = w9 at B9 X9 Y9 ⊢
    have yc0 : w9.cell? ⟨g5, 0, none⟩ = some (.int .i64 0) := (blk_cell X9.out.1 0).trans rfl; have yf0 := blk_frozen X9.out.1 0; have yc1 : w9.cell? ⟨g5, 1, none⟩ = some (.slice A 2 c) := (blk_cell X9.out.1 1).trans rfl; have yf1 := blk_frozen X9.out.1 1
    go_wp2_with fail
    obtain ⟨-, hcap, hC⟩ := Kd.R_reads' X9.out.2
    refine (links_Packets (t := 1) (k := 0) (l := sL l0) rfl hC hcap (fit_sL (by have := H30.out; omega)) (show 1 < 2 by decide) (by decide) rfl HF.out).mono ?_
    rintro x w10 ⟨v10, rfl, hP, hb⟩
    rw [show rd_T64 (sL l0) ((1 : Nat) : Int) = ⟨l0, 0⟩ from rfl] at hP
    obtain ⟨PL, hPL⟩ : ∃ PL, PL = packL 0 ((1 : Nat) : Int) ⟨l0, 0⟩ 0 := ⟨_, rfl⟩
    rw [← hPL] at hP
    obtain ⟨AP, cP, eP⟩ := Kd.R_slice hP
    subst eP
    have HPL := Aside0.mk hPL
    have P10 := Aside0.mk (Kd.R_lower (Kd.R_mono (ok' := (fun k => k ≠ g5 ∧ k ≠ g7)) (Kd.R_bound hP) (fun k hk => ⟨fun e => by subst e; exact absurd (blk_lt X9.out.1) (Nat.not_lt.mpr hk.2.1), fun e => by subst e; exact absurd (blk_lt Y9.out.1) (Nat.not_lt.mpr hk.2.1)⟩)) B9.out.size)
    have B10 := Aside0.mk (below_step B9.out hb); have X10 := Aside0.mk (X9.out.below hb); have Y10 := Aside0.mk (Y9.out.below hb)
    clear hb hP hPL hcap hC d1 d2 d3 B9 X9 Y9 yc0 yf0 yc1 yf1
    go_wp2_with fail
    go_loopg [14, 15, 62] (l1.length + 1) (fun kq v14 v15 v62 w' => ∃ (i want : Nat) (D : Option Addr) (d : Nat) (GL : List S35), v14 = .int .i64 (want : Int) ∧ v62 = .int .i64 (i : Int) ∧ Aside0 (i ≤ l1.length ∧ i + kq = l1.length + 1) ∧ Aside0 (want ≤ l0.length ∧ GL = l0.take want) ∧ Aside0 (Below w.heap.size w w') ∧ Aside0 (LBox w.heap.size (OKG g5 g7 (v15)) w' g5 0 (sL l0) A c) ∧ Aside0 (LBox w.heap.size (OKG g5 g7 (v15)) w' g7 1 (hL want) D d) ∧ Aside0 (Kd.R k37 37 w' w.heap.size (OKG g5 g7 (v15)) (.slice AP PL.length cP) PL) ∧ Aside0 (Kd.R k35 35 w' w.heap.size (fun k => k ≠ g5 ∧ k ≠ g7) v15 GL))
    case atStart => exact ⟨0, 0, A5, c5, [], rfl, rfl, ⟨by omega, by omega⟩, ⟨Nat.zero_le _, rfl⟩, B10, ⟨X10.out.mono_ (fun k hk => ⟨hk, by simp [Value.ownBlock]⟩)⟩, ⟨Y10.out.mono_ (fun k hk => ⟨hk, by simp [Value.ownBlock]⟩)⟩, ⟨Kd.R_mono P10.out (fun k hk => ⟨hk, by simp [Value.ownBlock]⟩)⟩, ⟨Kd.R_nil _ _ _ _ _⟩⟩
    case round =>
      obtain ⟨i, want, D, d, GL, rfl, rfl, HI, HW, B8, X8, Y8, P8, Q8⟩ := hrel
      obtain ⟨AG, cG, eG⟩ := Kd.R_slice Q8.out
      subst eG
      clear B10 X10 Y10 P10
      by_cases hi : i < l1.length
      · have d1 : decide ((i : Int) < (l1.length : Int)) = true := decide_eq_true (by omega)
        have d2 : decide (i < l1.length) = true := decide_eq_true hi
        have d3 : (i < l1.length) = True := eq_true hi
        have hk0 : (0 : Int) ≤ (i : Int) := by omega
        have hk1 : (i : Int) < (l1.length : Int) := by omega
        obtain ⟨bd, e1, y0⟩ := Kd.at_int (Kd.C_below HR1.out B8.out) (i : Int) hk0 hk1
        subst e1
        rw [Int.toNat_natCast] at y0
        obtain ⟨n, hn⟩ : ∃ n, n = rd l1 (i : Int) := ⟨_, rfl⟩
        rw [← hn] at y0
        have b2 : wrap64 ((i : Int) + 1) = ((i + 1 : Nat) : Int) := by have := H200.out; unfold wrap64; omega
        have q1 := eq_true hk0; have q2 := eq_true hk1; have q3 : decide ((0 : Int) ≤ (i : Int)) = true := decide_eq_true hk0
        have NK := Aside0.mk (nkC hi HI.out)
        clear hi hn hk0 hk1
        by_cases hz : l0.length = 0
        · have z1 : ((l0.length : Int) == 0) = true := beq_iff_eq.mpr (by omega)
          have z2 : (l0.length == 0) = true := beq_iff_eq.mpr hz
          have z3 : (l0.length = 0) = True := eq_true hz
          clear hz
          go_wp2_with fail
          go_roundg (gk - 1)
          case measure => have := NK.out.2; omega
          case rel => exact ⟨i + 1, want, D, d, GL, rfl, by (first | rw [b2] | rfl), ⟨NK.out.1⟩, HW, B8, X8, Y8, P8, Q8⟩
        have z1 : ((l0.length : Int) == 0) = false := beq_eq_false_iff_ne.mpr (by omega)
        have z2 : (l0.length == 0) = false := beq_eq_false_iff_ne.mpr hz
        have z3 : (l0.length = 0) = False := eq_false hz
        by_cases hn : n < 0
        · have z4 : decide (n < 0) = true := decide_eq_true hn
          clear hz hn
          go_wp2_with fail
          go_roundg (gk - 1)
          case measure => have := NK.out.2; omega
          case rel => exact ⟨i + 1, want, D, d, GL, rfl, by (first | rw [b2] | rfl), ⟨NK.out.1⟩, HW, B8, X8, Y8, P8, Q8⟩
        obtain ⟨nn, rfl⟩ := Int.eq_ofNat_of_zero_le (Int.not_lt.mp hn)
        have z4 : decide ((nn : Int) < 0) = false := decide_eq_false hn
        have hPLl : PL.length = l0.length := by rw [HPL.out]; exact pack_len (by omega)
        obtain ⟨j, hj⟩ : ∃ j, j = nn % PL.length := ⟨_, rfl⟩
        have hjl : j < PL.length := by rw [hj]; exact Nat.mod_lt _ (by omega)
        have hel : PL.getD j z37 = ⟨0, 1, ((j : Int) + 1), 0, rd_T35 l0 (j : Int)⟩ := by rw [HPL.out]; exact pack_at (by omega)
        have r1 : Int.tmod (nn : Int) (PL.length : Int) = (j : Int) := by rw [hj]; exact (Int.ofNat_tmod nn PL.length).symm
        have r2 : ((PL.length : Int) == 0) = false := beq_eq_false_iff_ne.mpr (by omega)
        have r3 : (PL.length == 0) = false := beq_eq_false_iff_ne.mpr (by omega)
        have r4 : ((PL.length : Int) = 0) = False := eq_false (by omega)
        have r5 : (PL.length = 0) = False := eq_false (by omega)
        have j0 : (0 : Int) ≤ (j : Int) := by omega
        have j1 : (j : Int) < (PL.length : Int) := by omega
        obtain ⟨A_, c_, e_, -, hrd⟩ := OwnRow.reads (Kd.R_bound P8.out).2
        injection e_ with e_ e2_ e3_
        subst e_
        clear e2_ e3_
        obtain ⟨ad, cc, ea, -, hK, hcell⟩ := ReadsRow.get_ hrd z37 (j : Int) j0 j1
        subst ea
        rw [Int.toNat_natCast, hel] at hK
        rw [Int.toNat_natCast] at hcell
        obtain ⟨v13, v14, ec, g13, g14⟩ := k37_openM hK
        obtain ⟨m, hm⟩ : ∃ m, m = rd_T35 l0 (j : Int) := ⟨_, rfl⟩
        rw [← hm] at ec g13 g14
        dsimp only at ec g13 g14
        subst ec
        obtain ⟨A13, c13, e13⟩ := Kd.R_slice g13
        obtain ⟨A14, c14, e14⟩ := Kd.R_slice g14
        subst e13
        subst e14
        have x0 : wr.cell? (ad.add (j * 15)) = some (.int .i64 0) := hcell 0 _ rfl; have x1 : wr.cell? ⟨(ad.add (j * 15)).block, (ad.add (j * 15)).off + 1, none⟩ = some (.int .i64 1) := (by rw [← add_field _ _ 1 (by omega)]; exact hcell 1 _ rfl); have x2 : wr.cell? ⟨(ad.add (j * 15)).block, (ad.add (j * 15)).off + 2, none⟩ = some (.int .i64 ((j : Int) + 1)) := (by rw [← add_field _ _ 2 (by omega)]; exact hcell 2 _ rfl); have x3 : wr.cell? ⟨(ad.add (j * 15)).block, (ad.add (j * 15)).off + 3, none⟩ = some (.int .i64 0) := (by rw [← add_field _ _ 3 (by omega)]; exact hcell 3 _ rfl); have x4 : wr.cell? ⟨(ad.add (j * 15)).block, (ad.add (j * 15)).off + 4, none⟩ = some (.int .i64 m.f0) := (by rw [← add_field _ _ 4 (by omega)]; exact hcell 4 _ rfl); have x5 : wr.cell? ⟨(ad.add (j * 15)).block, (ad.add (j * 15)).off + 5, none⟩ = some (.int .i64 m.f1.f0) := (by rw [← add_field _ _ 5 (by omega)]; exact hcell 5 _ rfl); have x6 : wr.cell? ⟨(ad.add (j * 15)).block, (ad.add (j * 15)).off + 6, none⟩ = some (.int .i64 m.f1.f1) := (by rw [← add_field _ _ 6 (by omega)]; exact hcell 6 _ rfl); have x7 : wr.cell? ⟨(ad.add (j * 15)).block, (ad.add (j * 15)).off + 7, none⟩ = some (.int .i64 m.f2) := (by rw [← add_field _ _ 7 (by omega)]; exact hcell 7 _ rfl); have x8 : wr.cell? ⟨(ad.add (j * 15)).block, (ad.add (j * 15)).off + 8, none⟩ = some (.int .i64 m.f3) := (by rw [← add_field _ _ 8 (by omega)]; exact hcell 8 _ rfl); have x9 : wr.cell? ⟨(ad.add (j * 15)).block, (ad.add (j * 15)).off + 9, none⟩ = some (.int .i64 m.f4) := (by rw [← add_field _ _ 9 (by omega)]; exact hcell 9 _ rfl); have x10 : wr.cell? ⟨(ad.add (j * 15)).block, (ad.add (j * 15)).off + 10, none⟩ = some (.int .i64 m.f5) := (by rw [← add_field _ _ 10 (by omega)]; exact hcell 10 _ rfl); have x11 : wr.cell? ⟨(ad.add (j * 15)).block, (ad.add (j * 15)).off + 11, none⟩ = some (.int .i64 m.f6) := (by rw [← add_field _ _ 11 (by omega)]; exact hcell 11 _ rfl); have x12 : wr.cell? ⟨(ad.add (j * 15)).block, (ad.add (j * 15)).off + 12, none⟩ = some (.bool m.f7) := (by rw [← add_field _ _ 12 (by omega)]; exact hcell 12 _ rfl); have x13 : wr.cell? ⟨(ad.add (j * 15)).block, (ad.add (j * 15)).off + 13, none⟩ = some (.slice A13 m.f8.length c13) := (by rw [← add_field _ _ 13 (by omega)]; exact hcell 13 _ rfl); have x14 : wr.cell? ⟨(ad.add (j * 15)).block, (ad.add (j * 15)).off + 14, none⟩ = some (.slice A14 m.f9.length c14) := (by rw [← add_field _ _ 14 (by omega)]; exact hcell 14 _ rfl)
        have U8 := Aside0.mk (Kd.R_mono (ok' := OKG g5 g7 (.slice AG GL.length cG)) (Kd.R_bound g13) (fun k hk => hk.1.1.1)); have V8 := Aside0.mk (Kd.R_mono (ok' := OKG g5 g7 (.slice AG GL.length cG)) (Kd.R_bound g14) (fun k hk => hk.1.1.1))
        have HMM := Aside0.mk hm; have HJL := Aside0.mk (show j < l0.length by omega)
        have b1 : wrap64 (((j : Int) + 1) - 1) = (j : Int) := by have := H30.out; unfold wrap64; omega
        have b3 : wrap64 ((want : Int) + 1) = ((want + 1 : Nat) : Int) := by have := H30.out; have := HW.out.1; unfold wrap64; omega
        have b4 : ((j : Int) + 1) - 1 = (j : Int) := by omega
        have b5 : wrap64 (j : Int) = (j : Int) := by have := H30.out; unfold wrap64; omega
        have q4 := eq_true j0; have q5 := eq_true j1; have q6 : decide ((0 : Int) ≤ (j : Int)) = true := decide_eq_true j0
        clear hz hn hPLl hj hjl hel hrd hK hcell hm g13 g14 j0 j1
        by_cases hjw : j = want
        rotate_left
        · have e1 : ((j : Int) == (want : Int)) = false := beq_eq_false_iff_ne.mpr (by omega)
          have e2 : (j == want) = false := beq_eq_false_iff_ne.mpr hjw
          have e3 : (j = want) = False := eq_false hjw
          have nx1 : (((j : Int) + 1) - 1 == (want : Int)) = false := beq_eq_false_iff_ne.mpr (by omega)
          clear hjw
          go_wp2_with (first | ((with_reducible refine gate_dst (N := 18) rfl ?_); refine box_event ?hg (N := 18) ?hd (cs := #[.int .i64 0, .int .i64 0, .int .i64 0, .int .i64 0, .int .i64 0, .int .i64 0, .int .i64 0, .int .i64 0, .int .i64 0, .int .i64 0, .int .i64 0, .int .i64 0, .bool false, .slice none 0 0, .slice none 0 0]) (t := 37) ?hr ?_; (case hd => rfl); (case hg => rfl); (case hr => first | (go_simp; done) | (go_simp; rfl)); intro g18 hg w9m hbox hb; have ZB := Aside0.mk hb; have ZX := Aside0.mk hbox; have M9g := Aside0.mk (show wr.heap.size ≤ g18 from by rw [hg]; exact Nat.le_refl _); have m_zc0 : w9m.cell? ⟨g18, 0, none⟩ = some (.int .i64 0) := (blk_cell ZX.out 0).trans rfl; have m_zf0 := blk_frozen ZX.out 0; have m_zc1 : w9m.cell? ⟨g18, 1, none⟩ = some (.int .i64 0) := (blk_cell ZX.out 1).trans rfl; have m_zf1 := blk_frozen ZX.out 1; have m_zc2 : w9m.cell? ⟨g18, 2, none⟩ = some (.int .i64 0) := (blk_cell ZX.out 2).trans rfl; have m_zf2 := blk_frozen ZX.out 2; have m_zc3 : w9m.cell? ⟨g18, 3, none⟩ = some (.int .i64 0) := (blk_cell ZX.out 3).trans rfl; have m_zf3 := blk_frozen ZX.out 3; have m_zc4 : w9m.cell? ⟨g18, 4, none⟩ = some (.int .i64 0) := (blk_cell ZX.out 4).trans rfl; have m_zf4 := blk_frozen ZX.out 4; have m_zc5 : w9m.cell? ⟨g18, 5, none⟩ = some (.int .i64 0) := (blk_cell ZX.out 5).trans rfl; have m_zf5 := blk_frozen ZX.out 5; have m_zc6 : w9m.cell? ⟨g18, 6, none⟩ = some (.int .i64 0) := (blk_cell ZX.out 6).trans rfl; have m_zf6 := blk_frozen ZX.out 6; have m_zc7 : w9m.cell? ⟨g18, 7, none⟩ = some (.int .i64 0) := (blk_cell ZX.out 7).trans rfl; have m_zf7 := blk_frozen ZX.out 7; have m_zc8 : w9m.cell? ⟨g18, 8, none⟩ = some (.int .i64 0) := (blk_cell ZX.out 8).trans rfl; have m_zf8 := blk_frozen ZX.out 8; have m_zc9 : w9m.cell? ⟨g18, 9, none⟩ = some (.int .i64 0) := (blk_cell ZX.out 9).trans rfl; have m_zf9 := blk_frozen ZX.out 9; have m_zc10 : w9m.cell? ⟨g18, 10, none⟩ = some (.int .i64 0) := (blk_cell ZX.out 10).trans rfl; have m_zf10 := blk_frozen ZX.out 10; have m_zc11 : w9m.cell? ⟨g18, 11, none⟩ = some (.int .i64 0) := (blk_cell ZX.out 11).trans rfl; have m_zf11 := blk_frozen ZX.out 11; have m_zc12 : w9m.cell? ⟨g18, 12, none⟩ = some (.bool false) := (blk_cell ZX.out 12).trans rfl; have m_zf12 := blk_frozen ZX.out 12; have m_zc13 : w9m.cell? ⟨g18, 13, none⟩ = some (.slice none 0 0) := (blk_cell ZX.out 13).trans rfl; have m_zf13 := blk_frozen ZX.out 13; have m_zc14 : w9m.cell? ⟨g18, 14, none⟩ = some (.slice none 0 0) := (blk_cell ZX.out 14).trans rfl; have m_zf14 := blk_frozen ZX.out 14; clear hb hg hbox) | ((with_reducible refine gate_dst (N := 80) rfl ?_); have NB9 := Aside0.mk (below_setB (below_setB (below_setB (below_setB (below_setB (below_setB (below_setB (below_setB (below_setB (below_setB (below_setB (below_setB (below_setB (below_setB (below_setB ZB.out (p := ⟨g18, 0, none⟩) M9g.out (.int .i64 0)) (p := ⟨g18, 1, none⟩) M9g.out (.int .i64 1)) (p := ⟨g18, 2, none⟩) M9g.out (.int .i64 ((j : Int) + 1))) (p := ⟨g18, 3, none⟩) M9g.out (.int .i64 0)) (p := ⟨g18, 4, none⟩) M9g.out (.int .i64 m.f0)) (p := ⟨g18, 5, none⟩) M9g.out (.int .i64 m.f1.f0)) (p := ⟨g18, 6, none⟩) M9g.out (.int .i64 m.f1.f1)) (p := ⟨g18, 7, none⟩) M9g.out (.int .i64 m.f2)) (p := ⟨g18, 8, none⟩) M9g.out (.int .i64 m.f3)) (p := ⟨g18, 9, none⟩) M9g.out (.int .i64 m.f4)) (p := ⟨g18, 10, none⟩) M9g.out (.int .i64 m.f5)) (p := ⟨g18, 11, none⟩) M9g.out (.int .i64 m.f6)) (p := ⟨g18, 12, none⟩) M9g.out (.bool m.f7)) (p := ⟨g18, 13, none⟩) M9g.out (.slice A13 m.f8.length c13)) (p := ⟨g18, 14, none⟩) M9g.out (.slice A14 m.f9.length c14)); have M9 := Aside0.mk (blk_put (blk_put (blk_put (blk_put (blk_put (blk_put (blk_put (blk_put (blk_put (blk_put (blk_put (blk_put (blk_put (blk_put (blk_put ZX.out 0 (.int .i64 0) (cs' := #[.int .i64 0, .int .i64 0, .int .i64 0, .int .i64 0, .int .i64 0, .int .i64 0, .int .i64 0, .int .i64 0, .int .i64 0, .int .i64 0, .int .i64 0, .int .i64 0, .bool false, .slice none 0 0, .slice none 0 0]) rfl) 1 (.int .i64 1) (cs' := #[.int .i64 0, .int .i64 1, .int .i64 0, .int .i64 0, .int .i64 0, .int .i64 0, .int .i64 0, .int .i64 0, .int .i64 0, .int .i64 0, .int .i64 0, .int .i64 0, .bool false, .slice none 0 0, .slice none 0 0]) rfl) 2 (.int .i64 ((j : Int) + 1)) (cs' := #[.int .i64 0, .int .i64 1, .int .i64 ((j : Int) + 1), .int .i64 0, .int .i64 0, .int .i64 0, .int .i64 0, .int .i64 0, .int .i64 0, .int .i64 0, .int .i64 0, .int .i64 0, .bool false, .slice none 0 0, .slice none 0 0]) rfl) 3 (.int .i64 0) (cs' := #[.int .i64 0, .int .i64 1, .int .i64 ((j : Int) + 1), .int .i64 0, .int .i64 0, .int .i64 0, .int .i64 0, .int .i64 0, .int .i64 0, .int .i64 0, .int .i64 0, .int .i64 0, .bool false, .slice none 0 0, .slice none 0 0]) rfl) 4 (.int .i64 m.f0) (cs' := #[.int .i64 0, .int .i64 1, .int .i64 ((j : Int) + 1), .int .i64 0, .int .i64 m.f0, .int .i64 0, .int .i64 0, .int .i64 0, .int .i64 0, .int .i64 0, .int .i64 0, .int .i64 0, .bool false, .slice none 0 0, .slice none 0 0]) rfl) 5 (.int .i64 m.f1.f0) (cs' := #[.int .i64 0, .int .i64 1, .int .i64 ((j : Int) + 1), .int .i64 0, .int .i64 m.f0, .int .i64 m.f1.f0, .int .i64 0, .int .i64 0, .int .i64 0, .int .i64 0, .int .i64 0, .int .i64 0, .bool false, .slice none 0 0, .slice none 0 0]) rfl) 6 (.int .i64 m.f1.f1) (cs' := #[.int .i64 0, .int .i64 1, .int .i64 ((j : Int) + 1), .int .i64 0, .int .i64 m.f0, .int .i64 m.f1.f0, .int .i64 m.f1.f1, .int .i64 0, .int .i64 0, .int .i64 0, .int .i64 0, .int .i64 0, .bool false, .slice none 0 0, .slice none 0 0]) rfl) 7 (.int .i64 m.f2) (cs' := #[.int .i64 0, .int .i64 1, .int .i64 ((j : Int) + 1), .int .i64 0, .int .i64 m.f0, .int .i64 m.f1.f0, .int .i64 m.f1.f1, .int .i64 m.f2, .int .i64 0, .int .i64 0, .int .i64 0, .int .i64 0, .bool false, .slice none 0 0, .slice none 0 0]) rfl) 8 (.int .i64 m.f3) (cs' := #[.int .i64 0, .int .i64 1, .int .i64 ((j : Int) + 1), .int .i64 0, .int .i64 m.f0, .int .i64 m.f1.f0, .int .i64 m.f1.f1, .int .i64 m.f2, .int .i64 m.f3, .int .i64 0, .int .i64 0, .int .i64 0, .bool false, .slice none 0 0, .slice none 0 0]) rfl) 9 (.int .i64 m.f4) (cs' := #[.int .i64 0, .int .i64 1, .int .i64 ((j : Int) + 1), .int .i64 0, .int .i64 m.f0, .int .i64 m.f1.f0, .int .i64 m.f1.f1, .int .i64 m.f2, .int .i64 m.f3, .int .i64 m.f4, .int .i64 0, .int .i64 0, .bool false, .slice none 0 0, .slice none 0 0]) rfl) 10 (.int .i64 m.f5) (cs' := #[.int .i64 0, .int .i64 1, .int .i64 ((j : Int) + 1), .int .i64 0, .int .i64 m.f0, .int .i64 m.f1.f0, .int .i64 m.f1.f1, .int .i64 m.f2, .int .i64 m.f3, .int .i64 m.f4, .int .i64 m.f5, .int .i64 0, .bool false, .slice none 0 0, .slice none 0 0]) rfl) 11 (.int .i64 m.f6) (cs' := #[.int .i64 0, .int .i64 1, .int .i64 ((j : Int) + 1), .int .i64 0, .int .i64 m.f0, .int .i64 m.f1.f0, .int .i64 m.f1.f1, .int .i64 m.f2, .int .i64 m.f3, .int .i64 m.f4, .int .i64 m.f5, .int .i64 m.f6, .bool false, .slice none 0 0, .slice none 0 0]) rfl) 12 (.bool m.f7) (cs' := #[.int .i64 0, .int .i64 1, .int .i64 ((j : Int) + 1), .int .i64 0, .int .i64 m.f0, .int .i64 m.f1.f0, .int .i64 m.f1.f1, .int .i64 m.f2, .int .i64 m.f3, .int .i64 m.f4, .int .i64 m.f5, .int .i64 m.f6, .bool m.f7, .slice none 0 0, .slice none 0 0]) rfl) 13 (.slice A13 m.f8.length c13) (cs' := #[.int .i64 0, .int .i64 1, .int .i64 ((j : Int) + 1), .int .i64 0, .int .i64 m.f0, .int .i64 m.f1.f0, .int .i64 m.f1.f1, .int .i64 m.f2, .int .i64 m.f3, .int .i64 m.f4, .int .i64 m.f5, .int .i64 m.f6, .bool m.f7, .slice A13 m.f8.length c13, .slice none 0 0]) rfl) 14 (.slice A14 m.f9.length c14) (cs' := #[.int .i64 0, .int .i64 1, .int .i64 ((j : Int) + 1), .int .i64 0, .int .i64 m.f0, .int .i64 m.f1.f0, .int .i64 m.f1.f1, .int .i64 m.f2, .int .i64 m.f3, .int .i64 m.f4, .int .i64 m.f5, .int .i64 m.f6, .bool m.f7, .slice A13 m.f8.length c13, .slice A14 m.f9.length c14]) rfl); clear ZB ZX m_zc0 m_zf0 m_zc1 m_zf1 m_zc2 m_zf2 m_zc3 m_zf3 m_zc4 m_zf4 m_zc5 m_zf5 m_zc6 m_zf6 m_zc7 m_zf7 m_zc8 m_zf8 m_zc9 m_zf9 m_zc10 m_zf10 m_zc11 m_zf11 m_zc12 m_zf12 m_zc13 m_zf13 m_zc14 m_zf14; generalize (((((((((((((((w9m.setCell ⟨g18, 0, none⟩ (.int .i64 0)).setCell ⟨g18, 1, none⟩ (.int .i64 1)).setCell ⟨g18, 2, none⟩ (.int .i64 ((j : Int) + 1))).setCell ⟨g18, 3, none⟩ (.int .i64 0)).setCell ⟨g18, 4, none⟩ (.int .i64 m.f0)).setCell ⟨g18, 5, none⟩ (.int .i64 m.f1.f0)).setCell ⟨g18, 6, none⟩ (.int .i64 m.f1.f1)).setCell ⟨g18, 7, none⟩ (.int .i64 m.f2)).setCell ⟨g18, 8, none⟩ (.int .i64 m.f3)).setCell ⟨g18, 9, none⟩ (.int .i64 m.f4)).setCell ⟨g18, 10, none⟩ (.int .i64 m.f5)).setCell ⟨g18, 11, none⟩ (.int .i64 m.f6)).setCell ⟨g18, 12, none⟩ (.bool m.f7)).setCell ⟨g18, 13, none⟩ (.slice A13 m.f8.length c13)).setCell ⟨g18, 14, none⟩ (.slice A14 m.f9.length c14)) = w9 at NB9 M9 ⊢; have B9 := Aside0.mk (below_step B8.out NB9.out); have X9 := Aside0.mk (X8.out.below NB9.out); have Y9 := Aside0.mk (Y8.out.below NB9.out); have P9 := Aside0.mk (Kd.R_below P8.out NB9.out); have Q9 := Aside0.mk (Kd.R_below Q8.out NB9.out); have U9 := Aside0.mk (Kd.R_below U8.out NB9.out); have V9 := Aside0.mk (Kd.R_below V8.out NB9.out); have yc0 : w9.cell? ⟨g7, 0, none⟩ = some (.int .i64 1) := (blk_cell Y9.out.1 0).trans rfl; have yf0 := blk_frozen Y9.out.1 0; have yc1 : w9.cell? ⟨g7, 1, none⟩ = some (.slice D 2 d) := (blk_cell Y9.out.1 1).trans rfl; have yf1 := blk_frozen Y9.out.1 1; have m_c2 : w9.cell? ⟨g18, 2, none⟩ = some (.int .i64 ((j : Int) + 1)) := (blk_cell M9.out 2).trans rfl; have m_f2 := blk_frozen M9.out 2))
          refine (links_Next (t := 0) (num := ((j : Int) + 1)) (l := hL want) rfl (Kd.R_reads' Y9.out.2).2.2 (Kd.R_reads' Y9.out.2).2.1 (show 0 < 2 by decide) (by decide) (by omega) (by have := H30.out; have := HJL.out; omega)).mono ?_
          rintro x w10 ⟨rfl, hb⟩
          rw [show (rd_T64 (hL want) ((0 : Nat) : Int)).f1 = (want : Int) from rfl, nx1]
          have B10 := Aside0.mk (below_step B9.out hb); have X10 := Aside0.mk (X9.out.below hb); have Y10 := Aside0.mk (Y9.out.below hb); have P10 := Aside0.mk (Kd.R_below P9.out hb); have Q10 := Aside0.mk (Kd.R_below Q9.out hb); have U10 := Aside0.mk (Kd.R_below U9.out hb); have V10 := Aside0.mk (Kd.R_below V9.out hb); have M10 := Aside0.mk (blk_below M9.out hb)
          clear hb nx1 B9 X9 Y9 P9 Q9 U9 V9 M9 NB9 m_c2 m_f2 yc0 yf0 yc1 yf1 B8 X8 Y8 P8 Q8 U8 V8
          go_wp2_with fail
          go_roundg (gk - 1)
          case measure => have := NK.out.2; omega
          case rel => exact ⟨i + 1, want, D, d, GL, rfl, by (first | rw [b2] | rfl), ⟨NK.out.1⟩, HW, B10, X10, Y10, P10, Q10⟩
        subst hjw
        have e1 : ((j : Int) == (j : Int)) = true := beq_self_eq_true _
        have nx1 : (((j : Int) + 1) - 1 == (j : Int)) = true := beq_iff_eq.mpr (by omega)
        have HGL := Aside0.mk (show l0.take (j + 1) = GL ++ [m] by rw [take_next35 HJL.out, HW.out.2, HMM.out])
        have HGl := Aside0.mk (show GL.length = j by rw [HW.out.2, List.length_take]; have := HJL.out; omega)
        go_wp2_with (first | ((with_reducible refine gate_dst (N := 18) rfl ?_); refine box_event ?hg (N := 18) ?hd (cs := #[.int .i64 0, .int .i64 0, .int .i64 0, .int .i64 0, .int .i64 0, .int .i64 0, .int .i64 0, .int .i64 0, .int .i64 0, .int .i64 0, .int .i64 0, .int .i64 0, .bool false, .slice none 0 0, .slice none 0 0]) (t := 37) ?hr ?_; (case hd => rfl); (case hg => rfl); (case hr => first | (go_simp; done) | (go_simp; rfl)); intro g18 hg w9m hbox hb; have ZB := Aside0.mk hb; have ZX := Aside0.mk hbox; have M9g := Aside0.mk (show wr.heap.size ≤ g18 from by rw [hg]; exact Nat.le_refl _); have m_zc0 : w9m.cell? ⟨g18, 0, none⟩ = some (.int .i64 0) := (blk_cell ZX.out 0).trans rfl; have m_zf0 := blk_frozen ZX.out 0; have m_zc1 : w9m.cell? ⟨g18, 1, none⟩ = some (.int .i64 0) := (blk_cell ZX.out 1).trans rfl; have m_zf1 := blk_frozen ZX.out 1; have m_zc2 : w9m.cell? ⟨g18, 2, none⟩ = some (.int .i64 0) := (blk_cell ZX.out 2).trans rfl; have m_zf2 := blk_frozen ZX.out 2; have m_zc3 : w9m.cell? ⟨g18, 3, none⟩ = some (.int .i64 0) := (blk_cell ZX.out 3).trans rfl; have m_zf3 := blk_frozen ZX.out 3; have m_zc4 : w9m.cell? ⟨g18, 4, none⟩ = some (.int .i64 0) := (blk_cell ZX.out 4).trans rfl; have m_zf4 := blk_frozen ZX.out 4; have m_zc5 : w9m.cell? ⟨g18, 5, none⟩ = some (.int .i64 0) := (blk_cell ZX.out 5).trans rfl; have m_zf5 := blk_frozen ZX.out 5; have m_zc6 : w9m.cell? ⟨g18, 6, none⟩ = some (.int .i64 0) := (blk_cell ZX.out 6).trans rfl; have m_zf6 := blk_frozen ZX.out 6; have m_zc7 : w9m.cell? ⟨g18, 7, none⟩ = some (.int .i64 0) := (blk_cell ZX.out 7).trans rfl; have m_zf7 := blk_frozen ZX.out 7; have m_zc8 : w9m.cell? ⟨g18, 8, none⟩ = some (.int .i64 0) := (blk_cell ZX.out 8).trans rfl; have m_zf8 := blk_frozen ZX.out 8; have m_zc9 : w9m.cell? ⟨g18, 9, none⟩ = some (.int .i64 0) := (blk_cell ZX.out 9).trans rfl; have m_zf9 := blk_frozen ZX.out 9; have m_zc10 : w9m.cell? ⟨g18, 10, none⟩ = some (.int .i64 0) := (blk_cell ZX.out 10).trans rfl; have m_zf10 := blk_frozen ZX.out 10; have m_zc11 : w9m.cell? ⟨g18, 11, none⟩ = some (.int .i64 0) := (blk_cell ZX.out 11).trans rfl; have m_zf11 := blk_frozen ZX.out 11; have m_zc12 : w9m.cell? ⟨g18, 12, none⟩ = some (.bool false) := (blk_cell ZX.out 12).trans rfl; have m_zf12 := blk_frozen ZX.out 12; have m_zc13 : w9m.cell? ⟨g18, 13, none⟩ = some (.slice none 0 0) := (blk_cell ZX.out 13).trans rfl; have m_zf13 := blk_frozen ZX.out 13; have m_zc14 : w9m.cell? ⟨g18, 14, none⟩ = some (.slice none 0 0) := (blk_cell ZX.out 14).trans rfl; have m_zf14 := blk_frozen ZX.out 14; clear hb hg hbox) | ((with_reducible refine gate_dst (N := 80) rfl ?_); have NB9 := Aside0.mk (below_setB (below_setB (below_setB (below_setB (below_setB (below_setB (below_setB (below_setB (below_setB (below_setB (below_setB (below_setB (below_setB (below_setB (below_setB ZB.out (p := ⟨g18, 0, none⟩) M9g.out (.int .i64 0)) (p := ⟨g18, 1, none⟩) M9g.out (.int .i64 1)) (p := ⟨g18, 2, none⟩) M9g.out (.int .i64 ((j : Int) + 1))) (p := ⟨g18, 3, none⟩) M9g.out (.int .i64 0)) (p := ⟨g18, 4, none⟩) M9g.out (.int .i64 m.f0)) (p := ⟨g18, 5, none⟩) M9g.out (.int .i64 m.f1.f0)) (p := ⟨g18, 6, none⟩) M9g.out (.int .i64 m.f1.f1)) (p := ⟨g18, 7, none⟩) M9g.out (.int .i64 m.f2)) (p := ⟨g18, 8, none⟩) M9g.out (.int .i64 m.f3)) (p := ⟨g18, 9, none⟩) M9g.out (.int .i64 m.f4)) (p := ⟨g18, 10, none⟩) M9g.out (.int .i64 m.f5)) (p := ⟨g18, 11, none⟩) M9g.out (.int .i64 m.f6)) (p := ⟨g18, 12, none⟩) M9g.out (.bool m.f7)) (p := ⟨g18, 13, none⟩) M9g.out (.slice A13 m.f8.length c13)) (p := ⟨g18, 14, none⟩) M9g.out (.slice A14 m.f9.length c14)); have M9 := Aside0.mk (blk_put (blk_put (blk_put (blk_put (blk_put (blk_put (blk_put (blk_put (blk_put (blk_put (blk_put (blk_put (blk_put (blk_put (blk_put ZX.out 0 (.int .i64 0) (cs' := #[.int .i64 0, .int .i64 0, .int .i64 0, .int .i64 0, .int .i64 0, .int .i64 0, .int .i64 0, .int .i64 0, .int .i64 0, .int .i64 0, .int .i64 0, .int .i64 0, .bool false, .slice none 0 0, .slice none 0 0]) rfl) 1 (.int .i64 1) (cs' := #[.int .i64 0, .int .i64 1, .int .i64 0, .int .i64 0, .int .i64 0, .int .i64 0, .int .i64 0, .int .i64 0, .int .i64 0, .int .i64 0, .int .i64 0, .int .i64 0, .bool false, .slice none 0 0, .slice none 0 0]) rfl) 2 (.int .i64 ((j : Int) + 1)) (cs' := #[.int .i64 0, .int .i64 1, .int .i64 ((j : Int) + 1), .int .i64 0, .int .i64 0, .int .i64 0, .int .i64 0, .int .i64 0, .int .i64 0, .int .i64 0, .int .i64 0, .int .i64 0, .bool false, .slice none 0 0, .slice none 0 0]) rfl) 3 (.int .i64 0) (cs' := #[.int .i64 0, .int .i64 1, .int .i64 ((j : Int) + 1), .int .i64 0, .int .i64 0, .int .i64 0, .int .i64 0, .int .i64 0, .int .i64 0, .int .i64 0, .int .i64 0, .int .i64 0, .bool false, .slice none 0 0, .slice none 0 0]) rfl) 4 (.int .i64 m.f0) (cs' := #[.int .i64 0, .int .i64 1, .int .i64 ((j : Int) + 1), .int .i64 0, .int .i64 m.f0, .int .i64 0, .int .i64 0, .int .i64 0, .int .i64 0, .int .i64 0, .int .i64 0, .int .i64 0, .bool false, .slice none 0 0, .slice none 0 0]) rfl) 5 (.int .i64 m.f1.f0) (cs' := #[.int .i64 0, .int .i64 1, .int .i64 ((j : Int) + 1), .int .i64 0, .int .i64 m.f0, .int .i64 m.f1.f0, .int .i64 0, .int .i64 0, .int .i64 0, .int .i64 0, .int .i64 0, .int .i64 0, .bool false, .slice none 0 0, .slice none 0 0]) rfl) 6 (.int .i64 m.f1.f1) (cs' := #[.int .i64 0, .int .i64 1, .int .i64 ((j : Int) + 1), .int .i64 0, .int .i64 m.f0, .int .i64 m.f1.f0, .int .i64 m.f1.f1, .int .i64 0, .int .i64 0, .int .i64 0, .int .i64 0, .int .i64 0, .bool false, .slice none 0 0, .slice none 0 0]) rfl) 7 (.int .i64 m.f2) (cs' := #[.int .i64 0, .int .i64 1, .int .i64 ((j : Int) + 1), .int .i64 0, .int .i64 m.f0, .int .i64 m.f1.f0, .int .i64 m.f1.f1, .int .i64 m.f2, .int .i64 0, .int .i64 0, .int .i64 0, .int .i64 0, .bool false, .slice none 0 0, .slice none 0 0]) rfl) 8 (.int .i64 m.f3) (cs' := #[.int .i64 0, .int .i64 1, .int .i64 ((j : Int) + 1), .int .i64 0, .int .i64 m.f0, .int .i64 m.f1.f0, .int .i64 m.f1.f1, .int .i64 m.f2, .int .i64 m.f3, .int .i64 0, .int .i64 0, .int .i64 0, .bool false, .slice none 0 0, .slice none 0 0]) rfl) 9 (.int .i64 m.f4) (cs' := #[.int .i64 0, .int .i64 1, .int .i64 ((j : Int) + 1), .int .i64 0, .int .i64 m.f0, .int .i64 m.f1.f0, .int .i64 m.f1.f1, .int .i64 m.f2, .int .i64 m.f3, .int .i64 m.f4, .int .i64 0, .int .i64 0, .bool false, .slice none 0 0, .slice none 0 0]) rfl) 10 (.int .i64 m.f5) (cs' := #[.int .i64 0, .int .i64 1, .int .i64 ((j : Int) + 1), .int .i64 0, .int .i64 m.f0, .int .i64 m.f1.f0, .int .i64 m.f1.f1, .int .i64 m.f2, .int .i64 m.f3, .int .i64 m.f4, .int .i64 m.f5, .int .i64 0, .bool false, .slice none 0 0, .slice none 0 0]) rfl) 11 (.int .i64 m.f6) (cs' := #[.int .i64 0, .int .i64 1, .int .i64 ((j : Int) + 1), .int .i64 0, .int .i64 m.f0, .int .i64 m.f1.f0, .int .i64 m.f1.f1, .int .i64 m.f2, .int .i64 m.f3, .int .i64 m.f4, .int .i64 m.f5, .int .i64 m.f6, .bool false, .slice none 0 0, .slice none 0 0]) rfl) 12 (.bool m.f7) (cs' := #[.int .i64 0, .int .i64 1, .int .i64 ((j : Int) + 1), .int .i64 0, .int .i64 m.f0, .int .i64 m.f1.f0, .int .i64 m.f1.f1, .int .i64 m.f2, .int .i64 m.f3, .int .i64 m.f4, .int .i64 m.f5, .int .i64 m.f6, .bool m.f7, .slice none 0 0, .slice none 0 0]) rfl) 13 (.slice A13 m.f8.length c13) (cs' := #[.int .i64 0, .int .i64 1, .int .i64 ((j : Int) + 1), .int .i64 0, .int .i64 m.f0, .int .i64 m.f1.f0, .int .i64 m.f1.f1, .int .i64 m.f2, .int .i64 m.f3, .int .i64 m.f4, .int .i64 m.f5, .int .i64 m.f6, .bool m.f7, .slice A13 m.f8.length c13, .slice none 0 0]) rfl) 14 (.slice A14 m.f9.length c14) (cs' := #[.int .i64 0, .int .i64 1, .int .i64 ((j : Int) + 1), .int .i64 0, .int .i64 m.f0, .int .i64 m.f1.f0, .int .i64 m.f1.f1, .int .i64 m.f2, .int .i64 m.f3, .int .i64 m.f4, .int .i64 m.f5, .int .i64 m.f6, .bool m.f7, .slice A13 m.f8.length c13, .slice A14 m.f9.length c14]) rfl); clear ZB ZX m_zc0 m_zf0 m_zc1 m_zf1 m_zc2 m_zf2 m_zc3 m_zf3 m_zc4 m_zf4 m_zc5 m_zf5 m_zc6 m_zf6 m_zc7 m_zf7 m_zc8 m_zf8 m_zc9 m_zf9 m_zc10 m_zf10 m_zc11 m_zf11 m_zc12 m_zf12 m_zc13 m_zf13 m_zc14 m_zf14; generalize (((((((((((((((w9m.setCell ⟨g18, 0, none⟩ (.int .i64 0)).setCell ⟨g18, 1, none⟩ (.int .i64 1)).setCell ⟨g18, 2, none⟩ (.int .i64 ((j : Int) + 1))).setCell ⟨g18, 3, none⟩ (.int .i64 0)).setCell ⟨g18, 4, none⟩ (.int .i64 m.f0)).setCell ⟨g18, 5, none⟩ (.int .i64 m.f1.f0)).setCell ⟨g18, 6, none⟩ (.int .i64 m.f1.f1)).setCell ⟨g18, 7, none⟩ (.int .i64 m.f2)).setCell ⟨g18, 8, none⟩ (.int .i64 m.f3)).setCell ⟨g18, 9, none⟩ (.int .i64 m.f4)).setCell ⟨g18, 10, none⟩ (.int .i64 m.f5)).setCell ⟨g18, 11, none⟩ (.int .i64 m.f6)).setCell ⟨g18, 12, none⟩ (.bool m.f7)).setCell ⟨g18, 13, none⟩ (.slice A13 m.f8.length c13)).setCell ⟨g18, 14, none⟩ (.slice A14 m.f9.length c14)) = w9 at NB9 M9 ⊢; have B9 := Aside0.mk (below_step B8.out NB9.out); have X9 := Aside0.mk (X8.out.below NB9.out); have Y9 := Aside0.mk (Y8.out.below NB9.out); have P9 := Aside0.mk (Kd.R_below P8.out NB9.out); have Q9 := Aside0.mk (Kd.R_below Q8.out NB9.out); have U9 := Aside0.mk (Kd.R_below U8.out NB9.out); have V9 := Aside0.mk (Kd.R_below V8.out NB9.out); have yc0 : w9.cell? ⟨g7, 0, none⟩ = some (.int .i64 1) := (blk_cell Y9.out.1 0).trans rfl; have yf0 := blk_frozen Y9.out.1 0; have yc1 : w9.cell? ⟨g7, 1, none⟩ = some (.slice D 2 d) := (blk_cell Y9.out.1 1).trans rfl; have yf1 := blk_frozen Y9.out.1 1; have m_c2 : w9.cell? ⟨g18, 2, none⟩ = some (.int .i64 ((j : Int) + 1)) := (blk_cell M9.out 2).trans rfl; have m_f2 := blk_frozen M9.out 2))
        refine (links_Next (t := 0) (num := ((j : Int) + 1)) (l := hL j) rfl (Kd.R_reads' Y9.out.2).2.2 (Kd.R_reads' Y9.out.2).2.1 (show 0 < 2 by decide) (by decide) (by omega) (by have := H30.out; have := HJL.out; omega)).mono ?_
        rintro x w10 ⟨rfl, hb⟩
        rw [show (rd_T64 (hL j) ((0 : Nat) : Int)).f1 = (j : Int) from rfl, nx1]
        have B10 := Aside0.mk (below_step B9.out hb); have X10 := Aside0.mk (X9.out.below hb); have Y10 := Aside0.mk (Y9.out.below hb); have P10 := Aside0.mk (Kd.R_below P9.out hb); have Q10 := Aside0.mk (Kd.R_below Q9.out hb); have U10 := Aside0.mk (Kd.R_below U9.out hb); have V10 := Aside0.mk (Kd.R_below V9.out hb); have M10 := Aside0.mk (blk_below M9.out hb)
        clear hb nx1 B9 X9 Y9 P9 Q9 U9 V9 M9 NB9 m_c2 m_f2 yc0 yf0 yc1 yf1 B8 X8 Y8 P8 Q8 U8 V8
        have m_c4 : w10.cell? ⟨g18, 4, none⟩ = some (.int .i64 m.f0) := (blk_cell M10.out 4).trans rfl; have m_f4 := blk_frozen M10.out 4; have m_c5 : w10.cell? ⟨g18, 5, none⟩ = some (.int .i64 m.f1.f0) := (blk_cell M10.out 5).trans rfl; have m_f5 := blk_frozen M10.out 5; have m_c6 : w10.cell? ⟨g18, 6, none⟩ = some (.int .i64 m.f1.f1) := (blk_cell M10.out 6).trans rfl; have m_f6 := blk_frozen M10.out 6; have m_c7 : w10.cell? ⟨g18, 7, none⟩ = some (.int .i64 m.f2) := (blk_cell M10.out 7).trans rfl; have m_f7 := blk_frozen M10.out 7; have m_c8 : w10.cell? ⟨g18, 8, none⟩ = some (.int .i64 m.f3) := (blk_cell M10.out 8).trans rfl; have m_f8 := blk_frozen M10.out 8; have m_c9 : w10.cell? ⟨g18, 9, none⟩ = some (.int .i64 m.f4) := (blk_cell M10.out 9).trans rfl; have m_f9 := blk_frozen M10.out 9; have m_c10 : w10.cell? ⟨g18, 10, none⟩ = some (.int .i64 m.f5) := (blk_cell M10.out 10).trans rfl; have m_f10 := blk_frozen M10.out 10; have m_c11 : w10.cell? ⟨g18, 11, none⟩ = some (.int .i64 m.f6) := (blk_cell M10.out 11).trans rfl; have m_f11 := blk_frozen M10.out 11; have m_c12 : w10.cell? ⟨g18, 12, none⟩ = some (.bool m.f7) := (blk_cell M10.out 12).trans rfl; have m_f12 := blk_frozen M10.out 12; have m_c13 : w10.cell? ⟨g18, 13, none⟩ = some (.slice A13 m.f8.length c13) := (blk_cell M10.out 13).trans rfl; have m_f13 := blk_frozen M10.out 13; have m_c14 : w10.cell? ⟨g18, 14, none⟩ = some (.slice A14 m.f9.length c14) := (blk_cell M10.out 14).trans rfl; have m_f14 := blk_frozen M10.out 14
        go_wp2_with (first | ((with_reducible refine gate_dst (N := 98) rfl ?_); refine Kd.R_lit k35 (w0 := w10) w.heap.size 35 ?hg (N := 98) ?hd (xs := [m]) (inner := [.int .i64 m.f0, .int .i64 m.f1.f0, .int .i64 m.f1.f1, .int .i64 m.f2, .int .i64 m.f3, .int .i64 m.f4, .int .i64 m.f5, .int .i64 m.f6, .bool m.f7, .slice A13 m.f8.length c13, .slice A14 m.f9.length c14]) (ok := (OKG g5 g7 (.slice AG GL.length cG))) (okp := (OKG g5 g7 (.slice AG GL.length cG))) ?hr ?hp (fun _ hk => hk) ⟨⟨fun e => by have := blk_lt X10.out.1; omega, fun e => by have := blk_lt Y10.out.1; omega⟩, fun e => by have := Kd.R_lt Q10.out _ e.symm; omega⟩ (Below.refl _ _) B10.out.size (by simp) ?_; (case hd => rfl); (case hg => rfl); (case hr => first | (go_simp; done) | (go_simp; rfl)); (case hp => exact Reps.front (k35_mkM w10 w.heap.size (OKG g5 g7 (.slice AG GL.length cG)) m U10.out V10.out) rfl (Reps.none _ _) (List.append_nil _)); intro vL w11 hoL hb_ hg_ hnew_; have hbL := below_gn_ hg_; obtain ⟨AL, cL, eL, hlL, hrL⟩ := OwnRow.reads hoL.2; subst eL; have RL := Aside0.mk hrL; have B11 := Aside0.mk (below_step B10.out hbL); have X11 := Aside0.mk (X10.out.below hbL); have Y11 := Aside0.mk (Y10.out.below hbL); have P11 := Aside0.mk (Kd.R_below P10.out hbL); have Q11 := Aside0.mk (Kd.R_below Q10.out hbL); clear hoL hb_ hg_ hnew_ hbL hrL hlL) | ((with_reducible refine gate_builtin (b := .append) (xs := #[.tmp 95, .tmp 98]) rfl ?_); at_builtin; refine Kd.R_append_rows k35 (Rr := k35.M w11 w.heap.size (fun k => OKG g5 g7 (.slice AG GL.length cG) k ∧ some k ≠ (Value.slice AL 1 cL).ownBlock)) (w0 := w11) w.heap.size rfl (.tmp 95) (.tmp 98) 52 35 (.agg #[.int .i64 0, .int .i64 0, .int .i64 0, .int .i64 0, .int .i64 0, .int .i64 0, .int .i64 0, .int .i64 0, .bool false, .slice none 0 0, .slice none 0 0]) 120 rfl Try.underlying52 info35_ rfl (by decide) (by omega) (.slice AG GL.length cG) GL [m] _ _ _ (fun k => k ≠ g5 ∧ k ≠ g7) (fun k => OKG g5 g7 (.slice AG GL.length cG) k ∧ some k ≠ (Value.slice AL 1 cL).ownBlock) rfl rfl ?aO ?aR (fun _ _ h => h) ?aK ?aF ?aB ?aS ?aL ?_; (case aO => exact Q11.out); (case aR => exact RL.out); (case aK => exact fun k hk => ⟨hk.1.1, hk.1.2⟩); (case aF => exact fun k hk => ⟨fun e => by subst e; exact absurd (blk_lt X11.out.1) (Nat.not_lt.mpr hk), fun e => by subst e; exact absurd (blk_lt Y11.out.1) (Nat.not_lt.mpr hk)⟩); (case aB => exact Below.refl _ _); (case aS => exact B11.out.size); (case aL => have := HGl.out; have := H30.out; have := HJL.out; simp only [List.length_cons, List.length_nil]; omega); intro v12 w12 ho hb_ hg hat; rw [← HGL.out] at ho; obtain ⟨GL2, hGL2⟩ : ∃ L, L = l0.take (j + 1) := ⟨_, rfl⟩; rw [← hGL2] at ho; have HG2 := Aside0.mk hGL2; obtain ⟨AH, cH, eH⟩ := Kd.R_slice ho; subst eH; have Q12 := Aside0.mk ho; have B12 := Aside0.mk (below_grown B11.out hg (Kd.R_base Q11.out)); have X12 := Aside0.mk (X11.out.app hg hat (fun e => (Q11.out.1 g5 e.symm).1 rfl)); have Y12 := Aside0.mk (Y11.out.app hg hat (fun e => (Q11.out.1 g7 e.symm).2 rfl)); have P12 := Aside0.mk (okg_R P11.out hg hat); clear ho hb_ hg hat hGL2; have yc0 : w12.cell? ⟨g7, 0, none⟩ = some (.int .i64 1) := (blk_cell Y12.out.1 0).trans rfl; have yf0 := blk_frozen Y12.out.1 0; have yc1 : w12.cell? ⟨g7, 1, none⟩ = some (.slice D 2 d) := (blk_cell Y12.out.1 1).trans rfl; have yf1 := blk_frozen Y12.out.1 1))
        refine (links_Hear (t := 0) (l := hL j) rfl B12.out.size Y12.out.2 (fit_hL (by have := H30.out; have := HJL.out; omega)) (show 0 < 2 by decide) (by decide)).mono ?_
        rintro x w13 ⟨A13_, c13_, rfl, hR, hb⟩
        rw [hL_hear] at hR
        have R13 := Aside0.mk (okn_of hR (fun k hk => ⟨⟨fun e => by subst e; exact absurd (blk_lt X12.out.1) (Nat.not_lt.mpr hk), fun e => by subst e; exact absurd (blk_lt Y12.out.1) (Nat.not_lt.mpr hk)⟩, fun e => by have := Kd.R_lt Q12.out k e.symm; omega⟩))
        have B13 := Aside0.mk (below_step B12.out hb); have X13 := Aside0.mk (X12.out.below hb); have Y13 := Aside0.mk (Y12.out.below hb); have P13 := Aside0.mk (Kd.R_below P12.out hb); have Q13 := Aside0.mk (Kd.R_below Q12.out hb)
        rw [show (hL j).length = 2 from rfl]
        clear hb hR B12 X12 Y12 P12 Q12 yc0 yf0 yc1 yf1 B11 X11 Y11 P11 Q11 B10 X10 Y10 P10 Q10 U10 V10 M10 m_c4 m_f4 m_c5 m_f5 m_c6 m_f6 m_c7 m_f7 m_c8 m_f8 m_c9 m_f9 m_c10 m_f10 m_c11 m_f11 m_c12 m_f12 m_c13 m_f13 m_c14 m_f14
        dsimp only
        go_wp2_with (first | ((with_reducible refine gate_dst (N := 21) rfl ?_); refine box_event ?hg (N := 21) ?hd (cs := #[.int .i64 0, .slice none 0 0]) (t := 55) ?hr ?_; (case hd => rfl); (case hg => rfl); (case hr => first | (go_simp; done) | (go_simp; rfl)); intro g21 hg w14m hbox hb; have ZB := Aside0.mk hb; have ZX := Aside0.mk hbox; have M14g := Aside0.mk (show w13.heap.size ≤ g21 from by rw [hg]; exact Nat.le_refl _); have m_zc0 : w14m.cell? ⟨g21, 0, none⟩ = some (.int .i64 0) := (blk_cell ZX.out 0).trans rfl; have m_zf0 := blk_frozen ZX.out 0; have m_zc1 : w14m.cell? ⟨g21, 1, none⟩ = some (.slice none 0 0) := (blk_cell ZX.out 1).trans rfl; have m_zf1 := blk_frozen ZX.out 1; clear hb hg hbox) | ((with_reducible refine gate_dst (N := 106) rfl ?_); have NB14 := Aside0.mk (below_setB (below_setB ZB.out (p := ⟨g21, 0, none⟩) M14g.out (.int .i64 1)) (p := ⟨g21, 1, none⟩) M14g.out (.slice A13_ 2 c13_)); have M14 := Aside0.mk (blk_put (blk_put ZX.out 0 (.int .i64 1) (cs' := #[.int .i64 1, .slice none 0 0]) rfl) 1 (.slice A13_ 2 c13_) (cs' := #[.int .i64 1, .slice A13_ 2 c13_]) rfl); clear ZB ZX m_zc0 m_zf0 m_zc1 m_zf1; generalize ((w14m.setCell ⟨g21, 0, none⟩ (.int .i64 1)).setCell ⟨g21, 1, none⟩ (.slice A13_ 2 c13_)) = w14 at NB14 M14 ⊢; have B14 := Aside0.mk (below_step B13.out NB14.out); have X14 := Aside0.mk (X13.out.below NB14.out); have Y14 := Aside0.mk (Y13.out.below NB14.out); have P14 := Aside0.mk (Kd.R_below P13.out NB14.out); have Q14 := Aside0.mk (Kd.R_below Q13.out NB14.out); have R14 := Aside0.mk (Kd.R_below R13.out NB14.out); have yc0 : w14.cell? ⟨g7, 0, none⟩ = some (.int .i64 1) := (blk_cell Y14.out.1 0).trans rfl; have yf0 := blk_frozen Y14.out.1 0; have yc1 : w14.cell? ⟨g7, 1, none⟩ = some (.slice D 2 d) := (blk_cell Y14.out.1 1).trans rfl; have yf1 := blk_frozen Y14.out.1 1; have m_c0 : w14.cell? ⟨g21, 0, none⟩ = some (.int .i64 1) := (blk_cell M14.out 0).trans rfl; have m_f0 := blk_frozen M14.out 0; have m_c1 : w14.cell? ⟨g21, 1, none⟩ = some (.slice A13_ 2 c13_) := (blk_cell M14.out 1).trans rfl; have m_f1 := blk_frozen M14.out 1) | ((with_reducible refine gate_dst (N := 108) rfl ?_); have B15 := Aside0.mk (below_setB (below_setB B14.out (p := ⟨g7, 0, none⟩) (Nat.le_trans G5.out (Nat.le_of_lt G7.out)) (.int .i64 1)) (p := ⟨g7, 1, none⟩) (Nat.le_trans G5.out (Nat.le_of_lt G7.out)) (.slice A13_ 2 c13_)); have X15 := Aside0.mk (show LBox w.heap.size (OKG g5 g7 (.slice AH GL2.length cH)) ((w14.setCell ⟨g7, 0, none⟩ (.int .i64 1)).setCell ⟨g7, 1, none⟩ (.slice A13_ 2 c13_)) g5 0 (sL l0) A c from X14.out.far (Nat.ne_of_lt G7.out) (fun k hk => hk.1.2) _ _); have Y15 := Aside0.mk (show LBox w.heap.size (OKG g5 g7 (.slice AH GL2.length cH)) ((w14.setCell ⟨g7, 0, none⟩ (.int .i64 1)).setCell ⟨g7, 1, none⟩ (.slice A13_ 2 c13_)) g7 1 (hL (j + 1)) A13_ c13_ from LBox.put (l := hL j) (l' := hL (j + 1)) Y14.out.1 R14.out (fun k hk => hk.1.2)); have P15 := Aside0.mk (Kd.R_kept P14.out (((Kept.refl w14 (fun k => k = g7)).setCell (p := ⟨g7, 0, none⟩) (.inl rfl) (.int .i64 1)).setCell (p := ⟨g7, 1, none⟩) (.inl rfl) (.slice A13_ 2 c13_)) (fun k hk e => hk.1.2 e)); have Q15 := Aside0.mk (Kd.R_kept Q14.out (((Kept.refl w14 (fun k => k = g7)).setCell (p := ⟨g7, 0, none⟩) (.inl rfl) (.int .i64 1)).setCell (p := ⟨g7, 1, none⟩) (.inl rfl) (.slice A13_ 2 c13_)) (fun k hk e => hk.2 e)); clear B14 X14 Y14 P14 Q14 R14 NB14 M14 m_c0 m_f0 m_c1 m_f1 yc0 yf0 yc1 yf1; generalize ((w14.setCell ⟨g7, 0, none⟩ (.int .i64 1)).setCell ⟨g7, 1, none⟩ (.slice A13_ 2 c13_)) = w15 at B15 X15 Y15 P15 Q15 ⊢))
        go_roundg (gk - 1)
        case measure => have := NK.out.2; omega
        case rel => exact ⟨i + 1, j + 1, A13_, c13_, GL2, by (first | rw [b3] | rfl), by (first | rw [b2] | rfl), ⟨NK.out.1⟩, ⟨by have := HJL.out; omega, HG2.out⟩, B15, X15, Y15, P15, Q15⟩
      have d1 : decide ((i : Int) < (l1.length : Int)) = false := decide_eq_false (by omega)
      have d2 : decide (i < l1.length) = false := decide_eq_false hi
      have d3 : (i < l1.length) = False := eq_false hi
      obtain rfl : want = GL.length := by rw [HW.out.2, List.length_take]; have := HW.out.1; omega
      have HWW := Aside0.mk HW.out
      have X20 := Aside0.mk X8.out; have Y20 := Aside0.mk Y8.out; have B20 := Aside0.mk B8.out; have Q20 := Aside0.mk Q8.out
      clear hi HI HW B8 X8 Y8 P8 Q8
      generalize wr = w20 at B20 X20 Y20 Q20 ⊢
      obtain ⟨ad, A_, c_, ea, y0, y1, l0_, g0_⟩ := at_T64 (Kd.R_reads' Y20.out.2).2.2 (0 : Int) (by decide) (show (0 : Int) < 2 by decide)
      subst ea
      rw [show ad.add ((0 : Int).toNat * 2) = ad by simp [Addr.add], show (rd_T64 (hL GL.length) (0 : Int)).f1 = (GL.length : Int) from rfl] at y1
      have z5 : ((GL.length : Int) != (GL.length : Int)) = false := bne_self_eq_false _
      have z6 : (GL.length != GL.length) = false := bne_self_eq_false _
      clear y0 l0_ g0_
      have yc0 : w20.cell? ⟨g7, 0, none⟩ = some (.int .i64 1) := (blk_cell Y20.out.1 0).trans rfl; have yf0 := blk_frozen Y20.out.1 0; have yc1 : w20.cell? ⟨g7, 1, none⟩ = some (.slice (some ad) 2 d) := (blk_cell Y20.out.1 1).trans rfl; have yf1 := blk_frozen Y20.out.1 1
      go_wp2_with fail
      clear z5 z6 d1 d2 d3 y1 yc0 yf0 yc1 yf1
      go_loopg [124] (GL.length + 1) (fun kq v124 w' => ∃ (k : Nat), v124 = .int .i64 (k : Int) ∧ Aside0 (k ≤ GL.length ∧ k + kq = GL.length + 1) ∧ Aside0 (Below w20.heap.size w20 w'))
      case atStart => exact ⟨0, rfl, ⟨by omega, by omega⟩, ⟨Below.refl _ _⟩⟩
      case round =>
        obtain ⟨k, rfl, HK, BW⟩ := hrel
        by_cases hk : k < GL.length
        · have d1 : decide ((k : Int) < (GL.length : Int)) = true := decide_eq_true (by omega)
          have d2 : decide (k < GL.length) = true := decide_eq_true hk
          have d3 : (k < GL.length) = True := eq_true hk
          have hk0 : (0 : Int) ≤ (k : Int) := by omega
          have hk1 : (k : Int) < (GL.length : Int) := by omega
          have hk2 : (k : Int) < (l0.length : Int) := by have := HWW.out.1; omega
          have B21 := Aside0.mk (below_step B20.out BW.out)
          obtain ⟨bd, B8, D8, B9, D9, eb, x0, x1, x2, x3, x4, x5, x6, x7, x8, x9, x10, l8, g8, l9, g9⟩ := at_T35 (Kd.R_reads' (Kd.R_below Q20.out BW.out)).2.2 (k : Int) hk0 hk1
          obtain ⟨cd, A8, C8, A9, C9, ea, y0, y1, y2, y3, y4, y5, y6, y7, y8, y9, y10, l8', g8', l9', g9'⟩ := at_T35 (Kd.C_below HR.out B21.out) (k : Int) hk0 hk2
          have hfit := HF.out _ (show rd_T35 l0 (k : Int) ∈ l0 by rw [rd35_at (by have := HWW.out.1; omega)]; exact List.getElem_mem _)
          have heq : rd_T35 GL (k : Int) = rd_T35 l0 (k : Int) := by
            have h1 := HWW.out.2
            have h2 := take_rd (l := l0) (w := GL.length) (k := k) (by rw [← h1]; exact hk)
            rw [← h1] at h2
            exact h2
          subst eb
          subst ea
          rw [heq] at x0 x1 x2 x3 x4 x5 x6 x7 x8 x9 x10 l8 g8 l9 g9
          obtain ⟨m, hq⟩ : ∃ m, m = rd_T35 l0 (k : Int) := ⟨_, rfl⟩
          rw [← hq] at x0 x1 x2 x3 x4 x5 x6 x7 x8 x9 x10 l8 g8 l9 g9 y0 y1 y2 y3 y4 y5 y6 y7 y8 y9 y10 l8' g8' l9' g9' hfit
          rw [Int.toNat_natCast] at x0 x1 x2 x3 x4 x5 x6 x7 x8 x9 x10 y0 y1 y2 y3 y4 y5 y6 y7 y8 y9 y10
          have EX := Aside0.mk (show _ from (⟨x0, x1, x2, x3, x4, x5, x6, x7, x8, x9, x10⟩ : (wr.cell? (bd.add (k * 11)) = some (.int .i64 m.f0)) ∧ (wr.cell? ⟨(bd.add (k * 11)).block, (bd.add (k * 11)).off + 1, none⟩ = some (.int .i64 m.f1.f0)) ∧ (wr.cell? ⟨(bd.add (k * 11)).block, (bd.add (k * 11)).off + 2, none⟩ = some (.int .i64 m.f1.f1)) ∧ (wr.cell? ⟨(bd.add (k * 11)).block, (bd.add (k * 11)).off + 3, none⟩ = some (.int .i64 m.f2)) ∧ (wr.cell? ⟨(bd.add (k * 11)).block, (bd.add (k * 11)).off + 4, none⟩ = some (.int .i64 m.f3)) ∧ (wr.cell? ⟨(bd.add (k * 11)).block, (bd.add (k * 11)).off + 5, none⟩ = some (.int .i64 m.f4)) ∧ (wr.cell? ⟨(bd.add (k * 11)).block, (bd.add (k * 11)).off + 6, none⟩ = some (.int .i64 m.f5)) ∧ (wr.cell? ⟨(bd.add (k * 11)).block, (bd.add (k * 11)).off + 7, none⟩ = some (.int .i64 m.f6)) ∧ (wr.cell? ⟨(bd.add (k * 11)).block, (bd.add (k * 11)).off + 8, none⟩ = some (.bool m.f7)) ∧ (wr.cell? ⟨(bd.add (k * 11)).block, (bd.add (k * 11)).off + 9, none⟩ = some (.slice B8 m.f8.length D8)) ∧ (wr.cell? ⟨(bd.add (k * 11)).block, (bd.add (k * 11)).off + 10, none⟩ = some (.slice B9 m.f9.length D9)))); have EY := Aside0.mk (show _ from (⟨y0, y1, y2, y3, y4, y5, y6, y7, y8, y9, y10⟩ : (wr.cell? (cd.add (k * 11)) = some (.int .i64 m.f0)) ∧ (wr.cell? ⟨(cd.add (k * 11)).block, (cd.add (k * 11)).off + 1, none⟩ = some (.int .i64 m.f1.f0)) ∧ (wr.cell? ⟨(cd.add (k * 11)).block, (cd.add (k * 11)).off + 2, none⟩ = some (.int .i64 m.f1.f1)) ∧ (wr.cell? ⟨(cd.add (k * 11)).block, (cd.add (k * 11)).off + 3, none⟩ = some (.int .i64 m.f2)) ∧ (wr.cell? ⟨(cd.add (k * 11)).block, (cd.add (k * 11)).off + 4, none⟩ = some (.int .i64 m.f3)) ∧ (wr.cell? ⟨(cd.add (k * 11)).block, (cd.add (k * 11)).off + 5, none⟩ = some (.int .i64 m.f4)) ∧ (wr.cell? ⟨(cd.add (k * 11)).block, (cd.add (k * 11)).off + 6, none⟩ = some (.int .i64 m.f5)) ∧ (wr.cell? ⟨(cd.add (k * 11)).block, (cd.add (k * 11)).off + 7, none⟩ = some (.int .i64 m.f6)) ∧ (wr.cell? ⟨(cd.add (k * 11)).block, (cd.add (k * 11)).off + 8, none⟩ = some (.bool m.f7)) ∧ (wr.cell? ⟨(cd.add (k * 11)).block, (cd.add (k * 11)).off + 9, none⟩ = some (.slice A8 m.f8.length C8)) ∧ (wr.cell? ⟨(cd.add (k * 11)).block, (cd.add (k * 11)).off + 10, none⟩ = some (.slice A9 m.f9.length C9))))
          have G8 := Aside0.mk g8; have G9 := Aside0.mk g9; have H8 := Aside0.mk g8'; have H9 := Aside0.mk g9'
          have FB := Aside0.mk (show m.f8.length ≤ 4611686018427387904 ∧ m.f9.length ≤ 4611686018427387904 by have := hfit.1; have := hfit.2; omega)
          have b2 : wrap64 ((k : Int) + 1) = ((k + 1 : Nat) : Int) := by have := HWW.out.1; have := H30.out; unfold wrap64; omega
          have q1 := eq_true hk0; have q2 := eq_true hk1; have q3 : decide ((0 : Int) ≤ (k : Int)) = true := decide_eq_true hk0; have q4 := eq_true hk2
          have NK := Aside0.mk (nkC hk HK.out)
          clear hk hk0 hk1 hk2 l8 g8 l9 g9 l8' g8' l9' g9' hfit heq hq x0 x1 x2 x3 x4 x5 x6 x7 x8 x9 x10 y0 y1 y2 y3 y4 y5 y6 y7 y8 y9 y10
          go_wp2_with fail
          refine start_ (n := 10) (S := fun w' => w'.cell? (bd.add (k * 11)) = some (.int .i64 m.f0) ∧ w'.cell? ⟨(bd.add (k * 11)).block, (bd.add (k * 11)).off + 1, none⟩ = some (.int .i64 m.f1.f0) ∧ w'.cell? ⟨(bd.add (k * 11)).block, (bd.add (k * 11)).off + 2, none⟩ = some (.int .i64 m.f1.f1) ∧ w'.cell? ⟨(bd.add (k * 11)).block, (bd.add (k * 11)).off + 3, none⟩ = some (.int .i64 m.f2) ∧ w'.cell? ⟨(bd.add (k * 11)).block, (bd.add (k * 11)).off + 4, none⟩ = some (.int .i64 m.f3) ∧ w'.cell? ⟨(bd.add (k * 11)).block, (bd.add (k * 11)).off + 5, none⟩ = some (.int .i64 m.f4) ∧ w'.cell? ⟨(bd.add (k * 11)).block, (bd.add (k * 11)).off + 6, none⟩ = some (.int .i64 m.f5) ∧ w'.cell? ⟨(bd.add (k * 11)).block, (bd.add (k * 11)).off + 7, none⟩ = some (.int .i64 m.f6) ∧ w'.cell? ⟨(bd.add (k * 11)).block, (bd.add (k * 11)).off + 8, none⟩ = some (.bool m.f7) ∧ w'.cell? ⟨(bd.add (k * 11)).block, (bd.add (k * 11)).off + 9, none⟩ = some (.slice B8 m.f8.length D8) ∧ w'.cell? ⟨(bd.add (k * 11)).block, (bd.add (k * 11)).off + 10, none⟩ = some (.slice B9 m.f9.length D9) ∧ w'.cell? (cd.add (k * 11)) = some (.int .i64 m.f0) ∧ w'.cell? ⟨(cd.add (k * 11)).block, (cd.add (k * 11)).off + 1, none⟩ = some (.int .i64 m.f1.f0) ∧ w'.cell? ⟨(cd.add (k * 11)).block, (cd.add (k * 11)).off + 2, none⟩ = some (.int .i64 m.f1.f1) ∧ w'.cell? ⟨(cd.add (k * 11)).block, (cd.add (k * 11)).off + 3, none⟩ = some (.int .i64 m.f2) ∧ w'.cell? ⟨(cd.add (k * 11)).block, (cd.add (k * 11)).off + 4, none⟩ = some (.int .i64 m.f3) ∧ w'.cell? ⟨(cd.add (k * 11)).block, (cd.add (k * 11)).off + 5, none⟩ = some (.int .i64 m.f4) ∧ w'.cell? ⟨(cd.add (k * 11)).block, (cd.add (k * 11)).off + 6, none⟩ = some (.int .i64 m.f5) ∧ w'.cell? ⟨(cd.add (k * 11)).block, (cd.add (k * 11)).off + 7, none⟩ = some (.int .i64 m.f6) ∧ w'.cell? ⟨(cd.add (k * 11)).block, (cd.add (k * 11)).off + 8, none⟩ = some (.bool m.f7) ∧ w'.cell? ⟨(cd.add (k * 11)).block, (cd.add (k * 11)).off + 9, none⟩ = some (.slice A8 m.f8.length C8) ∧ w'.cell? ⟨(cd.add (k * 11)).block, (cd.add (k * 11)).off + 10, none⟩ = some (.slice A9 m.f9.length C9)) (ds := [8]) #[false, false, false, false, false, false, false, false, false, false] (by kernel_rfl) rfl rfl ⟨cell_bel2 EX.out.1 (below_drew (Below.refl _ _)), cell_bel2 EX.out.2.1 (below_drew (Below.refl _ _)), cell_bel2 EX.out.2.2.1 (below_drew (Below.refl _ _)), cell_bel2 EX.out.2.2.2.1 (below_drew (Below.refl _ _)), cell_bel2 EX.out.2.2.2.2.1 (below_drew (Below.refl _ _)), cell_bel2 EX.out.2.2.2.2.2.1 (below_drew (Below.refl _ _)), cell_bel2 EX.out.2.2.2.2.2.2.1 (below_drew (Below.refl _ _)), cell_bel2 EX.out.2.2.2.2.2.2.2.1 (below_drew (Below.refl _ _)), cell_bel2 EX.out.2.2.2.2.2.2.2.2.1 (below_drew (Below.refl _ _)), cell_bel2 EX.out.2.2.2.2.2.2.2.2.2.1 (below_drew (Below.refl _ _)), cell_bel2 EX.out.2.2.2.2.2.2.2.2.2.2 (below_drew (Below.refl _ _)), cell_bel2 EY.out.1 (below_drew (Below.refl _ _)), cell_bel2 EY.out.2.1 (below_drew (Below.refl _ _)), cell_bel2 EY.out.2.2.1 (below_drew (Below.refl _ _)), cell_bel2 EY.out.2.2.2.1 (below_drew (Below.refl _ _)), cell_bel2 EY.out.2.2.2.2.1 (below_drew (Below.refl _ _)), cell_bel2 EY.out.2.2.2.2.2.1 (below_drew (Below.refl _ _)), cell_bel2 EY.out.2.2.2.2.2.2.1 (below_drew (Below.refl _ _)), cell_bel2 EY.out.2.2.2.2.2.2.2.1 (below_drew (Below.refl _ _)), cell_bel2 EY.out.2.2.2.2.2.2.2.2.1 (below_drew (Below.refl _ _)), cell_bel2 EY.out.2.2.2.2.2.2.2.2.2.1 (below_drew (Below.refl _ _)), cell_bel2 EY.out.2.2.2.2.2.2.2.2.2.2 (below_drew (Below.refl _ _))⟩ (fun hHeld => ?_)
          refine pure_ (i := 0) (N := some 127) (v := ?_) (a' := ?_) #[true, false, false, false, false, false, false, false, false, false] rfl rfl (by kernel_rfl) (fun _ _ _ h => h) (Or.inl ⟨by rfl, ?_⟩) ?_ ?_
          rotate_left
          · intro w'
            go_simp
            with_reducible rfl
          rotate_left
          · simp only [Act.put, List.setIfInBounds_toArray, List.set_cons_zero, List.set_cons_succ, i64_w, i32_w]
            rfl
          refine pure_ (i := 1) (N := some 128) (v := ?_) (a' := ?_) #[true, true, false, false, false, false, false, false, false, false] rfl rfl (by kernel_rfl) (fun _ _ _ h => h) (Or.inl ⟨by rfl, ?_⟩) ?_ ?_
          rotate_left
          · intro w'
            go_simp
            with_reducible rfl
          rotate_left
          · simp only [Act.put, List.setIfInBounds_toArray, List.set_cons_zero, List.set_cons_succ, i64_w, i32_w]
            rfl
          refine pure_ (i := 2) (N := some 129) (v := ?_) (a' := ?_) #[true, true, true, false, false, false, false, false, false, false] rfl rfl (by kernel_rfl) (fun _ _ _ h => h) (Or.inl ⟨by rfl, ?_⟩) ?_ ?_
          rotate_left
          · intro w'
            go_simp
            with_reducible rfl
          rotate_left
          · simp only [Act.put, List.setIfInBounds_toArray, List.set_cons_zero, List.set_cons_succ, i64_w, i32_w]
            rfl
          refine pure_ (i := 4) (N := some 131) (v := ?_) (a' := ?_) #[true, true, true, false, true, false, false, false, false, false] rfl rfl (by kernel_rfl) (fun _ _ _ h => h) (Or.inl ⟨by rfl, ?_⟩) ?_ ?_
          rotate_left
          · intro w'
            go_simp
            with_reducible rfl
          rotate_left
          · simp only [Act.put, List.setIfInBounds_toArray, List.set_cons_zero, List.set_cons_succ, i64_w, i32_w]
            rfl
          refine pure_ (i := 5) (N := some 132) (v := ?_) (a' := ?_) #[true, true, true, false, true, true, false, false, false, false] rfl rfl (by kernel_rfl) (fun _ _ _ h => h) (Or.inl ⟨by rfl, ?_⟩) ?_ ?_
          rotate_left
          · intro w'
            go_simp
            with_reducible rfl
          rotate_left
          · simp only [Act.put, List.setIfInBounds_toArray, List.set_cons_zero, List.set_cons_succ, i64_w, i32_w]
            rfl
          refine pure_ (i := 6) (N := some 133) (v := ?_) (a' := ?_) #[true, true, true, false, true, true, true, false, false, false] rfl rfl (by kernel_rfl) (fun _ _ _ h => h) (Or.inl ⟨by rfl, ?_⟩) ?_ ?_
          rotate_left
          · intro w'
            go_simp
            with_reducible rfl
          rotate_left
          · simp only [Act.put, List.setIfInBounds_toArray, List.set_cons_zero, List.set_cons_succ, i64_w, i32_w]
            rfl
          refine take_ (i := 3) (N := some 130) (v := ?_) (a' := ?_) #[true, true, true, true, true, true, true, false, false, false] rfl rfl (by kernel_rfl) (fun _ _ _ h => h) (Or.inl ⟨by rfl, ?_⟩) hHeld ?_ ?_
          rotate_left
          · rintro w' ⟨s0, s1, s2, s3, s4, s5, s6, s7, s8, s9, s10, s11, s12, s13, s14, s15, s16, s17, s18, s19, s20, s21⟩
            go_simp
            with_reducible rfl
          rotate_left
          · simp only [Act.put, List.setIfInBounds_toArray, List.set_cons_zero, List.set_cons_succ, i64_w, i32_w]
            rfl
          refine take_ (i := 7) (N := some 134) (v := ?_) (a' := ?_) #[true, true, true, true, true, true, true, true, false, false] rfl rfl (by kernel_rfl) (fun _ _ _ h => h) (Or.inl ⟨by rfl, ?_⟩) hHeld ?_ ?_
          rotate_left
          · rintro w' ⟨s0, s1, s2, s3, s4, s5, s6, s7, s8, s9, s10, s11, s12, s13, s14, s15, s16, s17, s18, s19, s20, s21⟩
            go_simp
            with_reducible rfl
          rotate_left
          · simp only [Act.put, List.setIfInBounds_toArray, List.set_cons_zero, List.set_cons_succ, i64_w, i32_w]
            rfl
          refine last_ (i := 8) (N := some 135) #[true, true, true, true, true, true, true, true, true, false] rfl rfl (by kernel_rfl) (by decide) (fun K hK => ?_)
          refine goes_ Try.func24 (by kernel_rfl) rfl #[.agg #[.int .i64 m.f0, .int .i64 m.f1.f0, .int .i64 m.f1.f1, .int .i64 m.f2, .int .i64 m.f3, .int .i64 m.f4, .int .i64 m.f5, .int .i64 m.f6, .bool m.f7, .slice B8 m.f8.length D8, .slice B9 m.f9.length D9], .agg #[.int .i64 m.f0, .int .i64 m.f1.f0, .int .i64 m.f1.f1, .int .i64 m.f2, .int .i64 m.f3, .int .i64 m.f4, .int .i64 m.f5, .int .i64 m.f6, .bool m.f7, .slice A8 m.f8.length C8, .slice A9 m.f9.length C9]] (by rfl) rfl rfl (by simp only [List.map_toArray, List.map_cons, List.map_nil]; rfl) ?_
          with_reducible refine (same_calls (m := m) (w := wr.drew) (Kd.C_below G8.out (below_drew (Below.refl _ _))) (Kd.C_below G9.out (below_drew (Below.refl _ _))) (Kd.C_below H8.out (below_drew (Below.refl _ _))) (Kd.C_below H9.out (below_drew (Below.refl _ _))) FB.out.1 FB.out.2).mono ?_
          rintro x w22 ⟨rfl, hb⟩
          refine ⟨_, rfl, ?_⟩
          have BW22 := Aside0.mk (below_step (below_drew BW.out) hb)
          clear hb
          refine hK.out _ _ ?_
          clear hK K
          refine norm_ (a' := ?_) ?_ ?_
          rotate_left
          · show Act.put _ (some 135) _ = _
            simp only [Act.put, List.setIfInBounds_toArray, List.set_cons_zero, List.set_cons_succ, i64_w, i32_w]
            rfl
          refine pure_ (i := 9) (N := some 136) (v := ?_) (a' := ?_) #[true, true, true, true, true, true, true, true, true, true] rfl rfl (by kernel_rfl) (fun _ _ _ h => h) (Or.inl ⟨by rfl, ?_⟩) ?_ ?_
          rotate_left
          · intro w'
            go_simp
            with_reducible rfl
          rotate_left
          · simp only [Act.put, List.setIfInBounds_toArray, List.set_cons_zero, List.set_cons_succ, i64_w, i32_w]
            rfl
          refine done_ (by kernel_rfl) ?_
          go_wp2_with fail
          go_roundg (gk - 1)
          case measure => have := NK.out.2; omega
          case rel => exact ⟨k + 1, by (first | rw [b2] | rfl), ⟨NK.out.1⟩, BW22⟩
        have d1 : decide ((k : Int) < (GL.length : Int)) = false := decide_eq_false (by omega)
        have d2 : decide (k < GL.length) = false := decide_eq_false hk
        have d3 : (k < GL.length) = False := eq_false hk
        have B23 := Aside0.mk (below_step B20.out BW.out); have X23 := Aside0.mk (X20.out.below BW.out)
        clear hk HK BW
        generalize wr = w23 at B23 X23 ⊢
        have yc0 : w23.cell? ⟨g5, 0, none⟩ = some (.int .i64 0) := (blk_cell X23.out.1 0).trans rfl; have yf0 := blk_frozen X23.out.1 0; have yc1 : w23.cell? ⟨g5, 1, none⟩ = some (.slice A 2 c) := (blk_cell X23.out.1 1).trans rfl; have yf1 := blk_frozen X23.out.1 1
        go_wp2_with fail
        refine (links_Packets (t := 1) (k := GL.length) (l := sL l0) rfl (Kd.R_reads' X23.out.2).2.2 (Kd.R_reads' X23.out.2).2.1 (fit_sL (by have := H30.out; omega)) (show 1 < 2 by decide) (by decide) (mx_nat _) HF.out).mono ?_
        rintro x w24 ⟨v24, rfl, hP, hb⟩
        rw [show rd_T64 (sL l0) ((1 : Nat) : Int) = ⟨l0, 0⟩ from rfl] at hP
        have hmx := pack_max (l := l0) (k := GL.length) HWW.out.1
        obtain ⟨PL2, hPL2⟩ : ∃ PL, PL = packL 0 ((1 : Nat) : Int) ⟨l0, 0⟩ GL.length := ⟨_, rfl⟩
        rw [← hPL2] at hP hmx
        obtain ⟨AQ, cQ, eQ⟩ := Kd.R_slice hP
        subst eQ
        have B24 := Aside0.mk (below_step B23.out hb)
        have b6 : wrap64 ((l0.length : Int) - (GL.length : Int)) = ((l0.length - GL.length : Nat) : Int) := by have := HWW.out.1; have := H30.out; unfold wrap64; omega
        have HMX := Aside0.mk hmx
        clear hb hP hPL2 hmx
        go_wp2_with fail
        all_goals (go_ret; refine ⟨congrArg (fun b => Ending.returned (.bool b)) (beq_iff_eq.mpr ?_), B24.out⟩; have hm := HMX.out; rw [← hm]; split <;> omega)
end Go.Proofs.Ythgdojaildccaaa.Pure
