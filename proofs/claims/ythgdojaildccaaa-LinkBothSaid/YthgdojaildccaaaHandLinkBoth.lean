/-
  LinkBoth, walked by hand: two nodes that speak at once hear each other, each all, in order.
-/
import Derived.Test.YthgdojaildccaaaOLink5
import Derived.Test.YthgdojaildccaaaHSame
import Derived.Test.YthgdojaildccaaaRowLinkBoth
namespace Go.Proofs.Ythgdojaildccaaa.Pure
open Go.RowKit Go.Proofs.Ythgdojaildccaaa.M Go.Proofs.YthgdojaildccaaaW.PrintWords Go.Proofs.YthgdojaildccaaaW.PrintLast Go.Proofs.YthgdojaildccaaaW.PrintMore
set_option linter.unusedVariables false
set_option linter.unusedSimpArgs false
theorem fitM_of {x : S35} (h : G35 x) : FitM x := by
  have h8 := h.2.2.2.2.2.2.2.2.1.1
  have h9 := h.2.2.2.2.2.2.2.2.2.1
  unfold FitM
  omega
/-- node 0's sessions: it has said a to node 1, and heard h -/
def s0 (a : List S35) (h : Nat) : List S64 := [z64, ⟨a, (h : Int)⟩]
/-- node 1's sessions -/
def s1 (b : List S35) (h : Nat) : List S64 := [⟨b, (h : Int)⟩, z64]
theorem s0_say (a : List S35) (m : S35) : sayL (s0 a 0) 1 m = s0 (a ++ [m]) 0 := rfl
theorem s1_say (b : List S35) (m : S35) : sayL (s1 b 0) 0 m = s1 (b ++ [m]) 0 := rfl
theorem s0_hear (a : List S35) (h : Nat) : hearL (s0 a h) 1 = s0 a (h + 1) := rfl
theorem s1_hear (b : List S35) (h : Nat) : hearL (s1 b h) 0 = s1 b (h + 1) := rfl
theorem s0_zero : List.replicate 2 z64 = s0 [] 0 := rfl
theorem s1_zero : List.replicate 2 z64 = s1 [] 0 := rfl
theorem fit_s0 {a : List S35} {h : Nat} (ha : a.length ≤ 4096) (hh : h ≤ 1000) : FitL (s0 a h) := ⟨by show 2 ≤ 9; decide, fun x hx => by
  rcases List.mem_cons.1 hx with rfl | hx
  · exact ⟨by decide, by decide, by decide⟩
  · rw [List.mem_singleton.1 hx]; exact ⟨ha, by show (0 : Int) ≤ (h : Int); omega, by show (h : Int) ≤ 1000000; omega⟩⟩
theorem fit_s1 {a : List S35} {h : Nat} (ha : a.length ≤ 4096) (hh : h ≤ 1000) : FitL (s1 a h) := ⟨by show 2 ≤ 9; decide, fun x hx => by
  rcases List.mem_cons.1 hx with rfl | hx
  · exact ⟨ha, by show (0 : Int) ≤ (h : Int); omega, by show (h : Int) ≤ 1000000; omega⟩
  · rw [List.mem_singleton.1 hx]; exact ⟨by decide, by decide, by decide⟩⟩
theorem take_next35 {l : List S35} {i : Nat} (h : i < l.length) : l.take (i + 1) = l.take i ++ [rd_T35 l (i : Int)] := by
  rw [rd35_at h, List.take_append_getElem h]
/-- the two nodes' sessions in the array at block g -/
def TB (N : Nat) (ok : Nat → Prop) (W : World) (g : Nat) (l0 l1 : List S64) (A : Option Addr) (c : Nat) (B : Option Addr) (d : Nat) : Prop :=
  W.heap[g]? = some (.cells #[.int .i64 0, .slice A 2 c, .int .i64 1, .slice B 2 d] 68 (0, 0)) ∧ l0.length = 2 ∧ l1.length = 2 ∧ Kd.R k64 64 W N ok (.slice A 2 c) l0 ∧ Kd.R k64 64 W N ok (.slice B 2 d) l1
theorem TB.below {N : Nat} {ok : Nat → Prop} {W W' : World} {g : Nat} {l0 l1 : List S64} {A B : Option Addr} {c d : Nat} (h : TB N ok W g l0 l1 A c B d) (hb : Below W.heap.size W W') : TB N ok W' g l0 l1 A c B d :=
  ⟨blk_below h.1 hb, h.2.1, h.2.2.1, Kd.R_below h.2.2.2.1 hb, Kd.R_below h.2.2.2.2 hb⟩
theorem TB.drew {N : Nat} {ok : Nat → Prop} {W : World} {g : Nat} {l0 l1 : List S64} {A B : Option Addr} {c d : Nat} (h : TB N ok W g l0 l1 A c B d) : TB N ok W.drew g l0 l1 A c B d := h.below (below_drew (Below.refl _ _))
/-- node 0's are written -/
theorem TB.put0 {N : Nat} {ok : Nat → Prop} {W : World} {g : Nat} {l0 l1 l' : List S64} {A B A' : Option Addr} {c d c' : Nat} (h : TB N ok W g l0 l1 A c B d) (h2 : l'.length = 2) (hR : Kd.R k64 64 W N ok (.slice A' 2 c') l') (hok : ∀ k, ok k → k ≠ g) :
    TB N ok ((W.setCell ⟨g, 0, none⟩ (.int .i64 0)).setCell ⟨g, 1, none⟩ (.slice A' 2 c')) g l' l1 A' c' B d :=
  have K := (((Kept.refl W (fun k => k = g)).setCell (p := ⟨g, 0, none⟩) (.inl rfl) (.int .i64 0)).setCell (p := ⟨g, 1, none⟩) (.inl rfl) (.slice A' 2 c'))
  ⟨blk_put (blk_put h.1 0 (.int .i64 0) (cs' := #[.int .i64 0, .slice A 2 c, .int .i64 1, .slice B 2 d]) rfl) 1 (.slice A' 2 c') (cs' := #[.int .i64 0, .slice A' 2 c', .int .i64 1, .slice B 2 d]) rfl, h2, h.2.2.1, Kd.R_kept hR K (fun k hk e => hok k hk e), Kd.R_kept h.2.2.2.2 K (fun k hk e => hok k hk e)⟩
theorem TB.put1 {N : Nat} {ok : Nat → Prop} {W : World} {g : Nat} {l0 l1 l' : List S64} {A B A' : Option Addr} {c d c' : Nat} (h : TB N ok W g l0 l1 A c B d) (h2 : l'.length = 2) (hR : Kd.R k64 64 W N ok (.slice A' 2 c') l') (hok : ∀ k, ok k → k ≠ g) :
    TB N ok ((W.setCell ⟨g, 2, none⟩ (.int .i64 1)).setCell ⟨g, 3, none⟩ (.slice A' 2 c')) g l0 l' A c A' c' :=
  have K := (((Kept.refl W (fun k => k = g)).setCell (p := ⟨g, 2, none⟩) (.inl rfl) (.int .i64 1)).setCell (p := ⟨g, 3, none⟩) (.inl rfl) (.slice A' 2 c'))
  ⟨blk_put (blk_put h.1 2 (.int .i64 1) (cs' := #[.int .i64 0, .slice A 2 c, .int .i64 1, .slice B 2 d]) rfl) 3 (.slice A' 2 c') (cs' := #[.int .i64 0, .slice A 2 c, .int .i64 1, .slice A' 2 c']) rfl, h.2.1, h2, Kd.R_kept h.2.2.2.1 K (fun k hk e => hok k hk e), Kd.R_kept hR K (fun k hk e => hok k hk e)⟩
theorem s0_lt (a : List S35) (h : Nat) : 1 < (s0 a h).length := by show 1 < 2; decide
theorem s1_lt (a : List S35) (h : Nat) : 0 < (s1 a h).length := by show 0 < 2; decide
theorem s0_two (a : List S35) (h : Nat) : 2 = (s0 a h).length := rfl
theorem s1_two (a : List S35) (h : Nat) : 2 = (s1 a h).length := rfl
theorem ne_10 : ((1 : Nat) : Int) ≠ 0 := by decide
theorem ne_01 : ((0 : Nat) : Int) ≠ 1 := by decide
theorem s0_said {a : List S35} {h : Nat} (ha : a.length < 4096) : (rd_T64 (s0 a h) ((1 : Nat) : Int)).f0.length < 4096 := ha
theorem s1_said {a : List S35} {h : Nat} (ha : a.length < 4096) : (rd_T64 (s1 a h) ((0 : Nat) : Int)).f0.length < 4096 := ha
theorem fit_s0' {a : List S35} (ha : a.length < 4096) : FitL (s0 a 0) := fit_s0 (Nat.le_of_lt ha) (by decide)
theorem fit_s1' {a : List S35} (ha : a.length < 4096) : FitL (s1 a 0) := fit_s1 (Nat.le_of_lt ha) (by decide)
theorem TB.mono {N : Nat} {ok ok' : Nat → Prop} {W : World} {g : Nat} {l0 l1 : List S64} {A B : Option Addr} {c d : Nat} (h : TB N ok W g l0 l1 A c B d) (hok : ∀ k, ok k → ok' k) : TB N ok' W g l0 l1 A c B d := ⟨h.1, h.2.1, h.2.2.1, Kd.R_mono h.2.2.2.1 hok, Kd.R_mono h.2.2.2.2 hok⟩
theorem TB.bnd {N : Nat} {ok : Nat → Prop} {W : World} {g : Nat} {l0 l1 : List S64} {A B : Option Addr} {c d : Nat} (h : TB N ok W g l0 l1 A c B d) : TB N (fun k => ok k ∧ k < W.heap.size) W g l0 l1 A c B d := ⟨h.1, h.2.1, h.2.2.1, Kd.R_mono (Kd.R_bound h.2.2.2.1) (fun k hk => ⟨hk.1, hk.2.2.1⟩), Kd.R_mono (Kd.R_bound h.2.2.2.2) (fun k hk => ⟨hk.1, hk.2.2.1⟩)⟩
theorem TB.grown {N : Nat} {ok : Nat → Prop} {W W1 : World} {g : Nat} {l0 l1 : List S64} {A B : Option Addr} {c d : Nat} {row : Option Nat} (h : TB N ok W g l0 l1 A c B d) (hg : W.grownBy W1 row) (hok : ∀ k, ok k → some k ≠ row) (hne : some g ≠ row) : TB N ok W1 g l0 l1 A c B d := ⟨blk_grown h.1 hg hne, h.2.1, h.2.2.1, Kd.R_grown h.2.2.2.1 hg hok, Kd.R_grown h.2.2.2.2 hg hok⟩
theorem TB.R0 {N : Nat} {ok : Nat → Prop} {W : World} {g : Nat} {l0 l1 : List S64} {A B : Option Addr} {c d : Nat} (h : TB N ok W g l0 l1 A c B d) : Kd.R k64 64 W N ok (.slice A l0.length c) l0 := by rw [h.2.1]; exact h.2.2.2.1
theorem TB.R1 {N : Nat} {ok : Nat → Prop} {W : World} {g : Nat} {l0 l1 : List S64} {A B : Option Addr} {c d : Nat} (h : TB N ok W g l0 l1 A c B d) : Kd.R k64 64 W N ok (.slice B l1.length d) l1 := by rw [h.2.2.1]; exact h.2.2.2.2
theorem TB.blk {N : Nat} {ok : Nat → Prop} {W : World} {g : Nat} {l0 l1 : List S64} {A B : Option Addr} {c d : Nat} (h : TB N ok W g l0 l1 A c B d) : W.heap[g]? = some (.cells #[.int .i64 0, .slice A 2 c, .int .i64 1, .slice B 2 d] 68 (0, 0)) := h.1
theorem info4_ : (Try.prog.info? 4).map (fun i => (i.zero, i.size, i.bytes)) = some (some (.bool false), 1, 1) := by kernel_rfl
theorem bool_at {W : World} {A : Option Addr} {l : List Bool} (h : Kd.bool.C W A l.length l) {i : Nat} (hi : i < l.length) : ∃ ad, A = some ad ∧ W.cell? (ad.add i) = some (.bool (l.getD i false)) := by
  obtain ⟨ad, c, e, hcl, hK, hc⟩ := Kd.C_get h false (i : Int) (by omega) (by omega)
  rw [Int.toNat_natCast] at hK hc
  have hK2 : c = [.bool (l.getD i false)] := hK
  subst hK2
  have := hc 0 _ rfl
  exact ⟨ad, e, by simpa [Kd.bool, Kd.scalar] using this⟩
theorem mx_nat (k : Nat) : mx 0 (k : Int) = (k : Int) := by unfold mx; split <;> omega
theorem packB_low {me t s : Int} {l : List S35} {k : Nat} (h : ¬k < l.length) : packL me t ⟨l, s⟩ k = [⟨me, t, 0, s, z35⟩] := by unfold packL; rw [if_neg h]
theorem packB_len {me t s : Int} {l : List S35} {k : Nat} (h : k < l.length) : (packL me t ⟨l, s⟩ k).length = l.length - k := by unfold packL; rw [if_pos h, pkFrom_len, List.length_drop]
theorem packB_get {me t s : Int} {l : List S35} {k j : Nat} (hj : j < (packL me t ⟨l, s⟩ k).length) : ∃ num m, (packL me t ⟨l, s⟩ k).getD j z37 = ⟨me, t, num, s, m⟩ ∧ ((num = 0 ∧ ¬k < l.length) ∨ (num = ((k + j : Nat) : Int) + 1 ∧ k < l.length ∧ k + j < l.length ∧ m = rd_T35 l ((k + j : Nat) : Int))) := by
  by_cases h : k < l.length
  · have hl : k + j < l.length := by rw [packB_len h] at hj; omega
    refine ⟨_, _, ?_, Or.inr ⟨rfl, h, hl, rfl⟩⟩
    rw [rd35_at hl]
    unfold packL
    rw [if_pos h]
    have h2 : j < l.length - k := by omega
    simp [pkFrom, List.getD_eq_getElem?_getD, h2, List.getElem?_drop, List.getElem?_eq_getElem hl]
  · rw [packB_low h] at hj ⊢
    have : j = 0 := by simpa using hj
    subst this
    exact ⟨0, z35, rfl, Or.inl ⟨rfl, h⟩⟩
theorem pack_end {me t s : Int} {l : List S35} {k j h : Nat} (hk : k ≤ l.length) (hj : j ≤ (packL me t ⟨l, s⟩ k).length) (hj2 : ¬j < (packL me t ⟨l, s⟩ k).length) (hh : h = if k < l.length then k + j else k) : h = l.length := by
  by_cases h0 : k < l.length
  · rw [packB_len h0] at hj hj2; rw [if_pos h0] at hh; omega
  · rw [if_neg h0] at hh; omega
theorem pl_wrap {me t s : Int} {l : List S35} {k j : Nat} {PL : List S37} (hj : j < PL.length) (hP : PL = packL me t ⟨l, s⟩ k) (h : l.length ≤ 20) : wrap64 ((j : Int) + 1) = ((j + 1 : Nat) : Int) := by
  subst hP
  have h2 : j < 21 := by
    by_cases h0 : k < l.length
    · rw [packB_len h0] at hj; omega
    · rw [packB_low h0] at hj; simp at hj; omega
  unfold wrap64; omega
theorem fit_s0'' {l1 n ha hb : Nat} {a : List S35} (H : a.length ≤ 20 ∧ l1 ≤ 20 ∧ n ≤ 80) (HH : ha ≤ l1 ∧ hb ≤ a.length) : FitL (s0 a ha) := fit_s0 (by omega) (by omega)
theorem fit_s1'' {l0 n ha hb : Nat} {a : List S35} (H : l0 ≤ 20 ∧ a.length ≤ 20 ∧ n ≤ 80) (HH : ha ≤ a.length ∧ hb ≤ l0) : FitL (s1 a hb) := fit_s1 (by omega) (by omega)
theorem fit_T0 {a : List S35} {h : Nat} (H : ∀ x ∈ a, FitM x) : ∀ m ∈ (rd_T64 (s0 a h) ((1 : Nat) : Int)).f0, FitM m := H
theorem fit_T1 {a : List S35} {h : Nat} (H : ∀ x ∈ a, FitM x) : ∀ m ∈ (rd_T64 (s1 a h) ((0 : Nat) : Int)).f0, FitM m := H
theorem nx_yes0 {a : List S35} {h : Nat} : (((h : Int) + 1) - 1 == (rd_T64 (s0 a h) ((1 : Nat) : Int)).f1) = true := by rw [show (rd_T64 (s0 a h) ((1 : Nat) : Int)).f1 = (h : Int) from rfl]; exact beq_iff_eq.mpr (by omega)
theorem nx_yes1 {a : List S35} {h : Nat} : (((h : Int) + 1) - 1 == (rd_T64 (s1 a h) ((0 : Nat) : Int)).f1) = true := by rw [show (rd_T64 (s1 a h) ((0 : Nat) : Int)).f1 = (h : Int) from rfl]; exact beq_iff_eq.mpr (by omega)
theorem num_lo (h : Nat) : (1 : Int) ≤ (h : Int) + 1 := by omega
theorem num_hi {h n : Nat} (H : n ≤ 20) (hh : h < n) : (h : Int) + 1 ≤ 9223372036854775807 := by omega
theorem fit_s0h {h n : Nat} {a : List S35} (H : a.length ≤ 20) (H2 : n ≤ 20) (hh : h < n) : FitL (s0 a h) := fit_s0 (by omega) (by omega)
theorem fit_s1h {h n : Nat} {a : List S35} (H : a.length ≤ 20) (H2 : n ≤ 20) (hh : h < n) : FitL (s1 a h) := fit_s1 (by omega) (by omega)
theorem s0_T {a : List S35} {h : Nat} : rd_T64 (s0 a h) ((1 : Nat) : Int) = ⟨a, (h : Int)⟩ := rfl
theorem s1_T {a : List S35} {h : Nat} : rd_T64 (s1 a h) ((0 : Nat) : Int) = ⟨a, (h : Int)⟩ := rfl
theorem okn_of {ok : Nat → Prop} {W : World} {N : Nat} {v : Value} {l : List S64} {W' : World} (h : Kd.R k64 64 W' N (OKN ok W) v l) (hn : ∀ k, W.heap.size ≤ k → ok k) : Kd.R k64 64 W' N ok v l := Kd.R_mono h (fun k hk => by rcases hk with ⟨h, _⟩ | h; (exact h); (exact hn k h))
set_option maxHeartbeats 16000000 in
set_option maxRecDepth 100000 in
theorem LinkBoth_hand (A0 : Option Addr) (c0 : Nat) (l0 : List S35) (A1 : Option Addr) (c1 : Nat) (l1 : List S35) (A2 : Option Addr) (c2 : Nat) (l2 : List Bool) (w : World) (hr : Kd.C k35 w A0 l0.length l0) (hc : l0.length ≤ c0) (hr1 : Kd.C k35 w A1 l1.length l1) (hc1 : l1.length ≤ c1) (hr2 : Kd.C Kd.bool w A2 l2.length l2) (hc2 : l2.length ≤ c2)
    (g0 : l0.length * 120 ≤ 140737488351232 ∧ ∀ x ∈ l0, G35 x) (g1 : l1.length * 120 ≤ 140737488351232 ∧ ∀ x ∈ l1, G35 x) (g2 : l2.length * 1 ≤ 140737488351232 ∧ ∀ x ∈ l2, True) :
    Calls Try.prog 9 #[.slice A0 l0.length c0, .slice A1 l1.length c1, .slice A2 l2.length c2] w fun e w' => e = .returned (.bool true) ∧ Below w.heap.size w w' := by
  have HR := Aside0.mk hr; have HR1 := Aside0.mk hr1; have HR2 := Aside0.mk hr2; have HF := Aside0.mk (show ∀ x ∈ l0, FitM x from fun x hx => fitM_of (g0.2 x hx)); have HF1 := Aside0.mk (show ∀ x ∈ l1, FitM x from fun x hx => fitM_of (g1.2 x hx))
  clear hr hc hr1 hc1 hr2 hc2 g0 g1 g2
  go_enter Try.func9, Try.ntmps9
  go_wp2_with fail
  refine (speaks_calls w).mono ?_; rintro x w1 ⟨rfl, hb⟩; have B1 := Aside0.mk hb; clear hb
  by_cases hu : l0.length > 20
  · have d1 : decide (20 < (l0.length : Int)) = true := decide_eq_true (by omega)
    have d2 : decide (20 < l0.length) = true := decide_eq_true hu
    have d3 : (20 < l0.length) = True := eq_true hu
    clear hu
    go_wp2_with fail
    go_ret
    exact ⟨rfl, B1.out⟩
  have u1 : decide (20 < (l0.length : Int)) = false := decide_eq_false (by omega)
  have u2 : decide (20 < l0.length) = false := decide_eq_false hu
  have u3 : (20 < l0.length) = False := eq_false hu
  by_cases hv : l1.length > 20
  · have d1 : decide (20 < (l1.length : Int)) = true := decide_eq_true (by omega)
    have d2 : decide (20 < l1.length) = true := decide_eq_true hv
    have d3 : (20 < l1.length) = True := eq_true hv
    clear hv
    go_wp2_with fail
    go_ret
    exact ⟨rfl, B1.out⟩
  have v1 : decide (20 < (l1.length : Int)) = false := decide_eq_false (by omega)
  have v2 : decide (20 < l1.length) = false := decide_eq_false hv
  have v3 : (20 < l1.length) = False := eq_false hv
  by_cases hx : l2.length > 80
  · have d1 : decide (80 < (l2.length : Int)) = true := decide_eq_true (by omega)
    have d2 : decide (80 < l2.length) = true := decide_eq_true hx
    have d3 : (80 < l2.length) = True := eq_true hx
    clear hx
    go_wp2_with fail
    go_ret
    exact ⟨rfl, B1.out⟩
  have t1 : decide (80 < (l2.length : Int)) = false := decide_eq_false (by omega)
  have t2 : decide (80 < l2.length) = false := decide_eq_false hx
  have t3 : (80 < l2.length) = False := eq_false hx
  have H20 := Aside0.mk (show l0.length ≤ 20 ∧ l1.length ≤ 20 ∧ l2.length ≤ 80 by omega)
  clear hu hv hx
  go_wp2_with (first | ((with_reducible refine gate_dst (N := 7) rfl ?_); refine box_event ?hg (N := 7) ?hd (cs := #[.int .i64 0, .slice none 0 0, .int .i64 0, .slice none 0 0]) (t := 68) ?hr ?_; (case hd => rfl); (case hg => rfl); (case hr => first | (go_simp; done) | (go_simp; rfl)); intro g7 hg w2 hbox hb; have B2 := Aside0.mk (below_step B1.out hb); have X2 := Aside0.mk hbox; have G7 := Aside0.mk (show w.heap.size ≤ g7 from by rw [hg]; exact B1.out.size); clear hb hg hbox))
  refine (links_New (me := 0) (nodes := 2) (by decide) (by decide) w2).mono ?_; rintro x w3 ⟨A3, c3, rfl, hR, hb⟩
  have B3 := Aside0.mk (below_step B2.out hb); have X3 := Aside0.mk (blk_below X2.out hb); have R3 := Aside0.mk (Kd.R_lower (Kd.R_mono (ok' := fun k => k ≠ g7) (Kd.R_bound hR) (fun k hk e => by subst e; exact absurd (blk_lt X2.out) (Nat.not_lt.mpr hk.2.1))) B2.out.size); have S3 := Aside0.mk (blk_lt X2.out); have S3b := Aside0.mk hb.size
  clear hb hR B2 X2 u1 u2 u3 v1 v2 v3 t1 t2 t3
  dsimp only
  have zc0 : w3.cell? ⟨g7, 0, none⟩ = some (.int .i64 0) := (blk_cell X3.out 0).trans rfl; have zf0 := blk_frozen X3.out 0; have zc1 : w3.cell? ⟨g7, 1, none⟩ = some (.slice none 0 0) := (blk_cell X3.out 1).trans rfl; have zf1 := blk_frozen X3.out 1; have zc2 : w3.cell? ⟨g7, 2, none⟩ = some (.int .i64 0) := (blk_cell X3.out 2).trans rfl; have zf2 := blk_frozen X3.out 2; have zc3 : w3.cell? ⟨g7, 3, none⟩ = some (.slice none 0 0) := (blk_cell X3.out 3).trans rfl; have zf3 := blk_frozen X3.out 3
  go_wp2_with fail
  have B4 := Aside0.mk (below_setB (below_setB B3.out (p := ⟨g7, 0, none⟩) G7.out (.int .i64 0)) (p := ⟨g7, 1, none⟩) G7.out (.slice A3 2 c3))
  have X4 := Aside0.mk (show ((w3.setCell ⟨g7, 0, none⟩ (.int .i64 0)).setCell ⟨g7, 1, none⟩ (.slice A3 2 c3)).heap[g7]? = some (.cells #[.int .i64 0, .slice A3 2 c3, .int .i64 0, .slice none 0 0] 68 (0, 0)) from blk_put (blk_put X3.out 0 (.int .i64 0) (cs' := #[.int .i64 0, .slice none 0 0, .int .i64 0, .slice none 0 0]) rfl) 1 (.slice A3 2 c3) (cs' := #[.int .i64 0, .slice A3 2 c3, .int .i64 0, .slice none 0 0]) rfl)
  have R4 := Aside0.mk (Kd.R_kept R3.out (((Kept.refl w3 (fun k => k = g7)).setCell (p := ⟨g7, 0, none⟩) (.inl rfl) (.int .i64 0)).setCell (p := ⟨g7, 1, none⟩) (.inl rfl) (.slice A3 2 c3)) (fun k hk e => hk e))
  clear B3 X3 R3 S3 S3b zc0 zf0 zc1 zf1 zc2 zf2 zc3 zf3
  generalize ((w3.setCell ⟨g7, 0, none⟩ (.int .i64 0)).setCell ⟨g7, 1, none⟩ (.slice A3 2 c3)) = w4 at B4 X4 R4 ⊢
  refine (links_New (me := 1) (nodes := 2) (by decide) (by decide) w4).mono ?_; rintro x w5 ⟨A5, c5, rfl, hR, hb⟩
  have B5 := Aside0.mk (below_step B4.out hb); have X5 := Aside0.mk (blk_below X4.out hb); have R5 := Aside0.mk (Kd.R_below R4.out hb); have Q5 := Aside0.mk (Kd.R_lower (Kd.R_mono (ok' := fun k => k ≠ g7) (Kd.R_bound hR) (fun k hk e => by subst e; exact absurd (blk_lt X4.out) (Nat.not_lt.mpr hk.2.1))) B4.out.size)
  clear hb hR B4 X4 R4
  dsimp only
  have zc0 : w5.cell? ⟨g7, 0, none⟩ = some (.int .i64 0) := (blk_cell X5.out 0).trans rfl; have zf0 := blk_frozen X5.out 0; have zc1 : w5.cell? ⟨g7, 1, none⟩ = some (.slice A3 2 c3) := (blk_cell X5.out 1).trans rfl; have zf1 := blk_frozen X5.out 1; have zc2 : w5.cell? ⟨g7, 2, none⟩ = some (.int .i64 0) := (blk_cell X5.out 2).trans rfl; have zf2 := blk_frozen X5.out 2; have zc3 : w5.cell? ⟨g7, 3, none⟩ = some (.slice none 0 0) := (blk_cell X5.out 3).trans rfl; have zf3 := blk_frozen X5.out 3
  go_wp2_with (first | ((with_reducible refine gate_dst (N := 46) rfl ?_); have B6 := Aside0.mk (below_setB (below_setB B5.out (p := ⟨g7, 2, none⟩) G7.out (.int .i64 1)) (p := ⟨g7, 3, none⟩) G7.out (.slice A5 2 c5)); have X6 := Aside0.mk (show TB w.heap.size (fun k => k ≠ g7) ((w5.setCell ⟨g7, 2, none⟩ (.int .i64 1)).setCell ⟨g7, 3, none⟩ (.slice A5 2 c5)) g7 (s0 [] 0) (s1 [] 0) A3 c3 A5 c5 from ⟨blk_put (blk_put X5.out 2 (.int .i64 1) (cs' := #[.int .i64 0, .slice A3 2 c3, .int .i64 1, .slice none 0 0]) rfl) 3 (.slice A5 2 c5) (cs' := #[.int .i64 0, .slice A3 2 c3, .int .i64 1, .slice A5 2 c5]) rfl, rfl, rfl, Kd.R_kept R5.out (((Kept.refl w5 (fun k => k = g7)).setCell (p := ⟨g7, 2, none⟩) (.inl rfl) (.int .i64 1)).setCell (p := ⟨g7, 3, none⟩) (.inl rfl) (.slice A5 2 c5)) (fun k hk e => hk e), Kd.R_kept Q5.out (((Kept.refl w5 (fun k => k = g7)).setCell (p := ⟨g7, 2, none⟩) (.inl rfl) (.int .i64 1)).setCell (p := ⟨g7, 3, none⟩) (.inl rfl) (.slice A5 2 c5)) (fun k hk e => hk e)⟩); clear B5 X5 R5 Q5 zc0 zf0 zc1 zf1 zc2 zf2 zc3 zf3; generalize ((w5.setCell ⟨g7, 2, none⟩ (.int .i64 1)).setCell ⟨g7, 3, none⟩ (.slice A5 2 c5)) = w6 at B6 X6 ⊢) | ((with_reducible refine gate_dst (N := 8) rfl ?_); refine box_event ?hg (N := 8) ?hd (cs := #[.slice none 0 0, .slice none 0 0]) (t := 69) ?hr ?_; (case hd => rfl); (case hg => rfl); (case hr => first | (go_simp; done) | (go_simp; rfl)); intro g8 hg w7 hbox hb; have HB7 := Aside0.mk hb; have B7 := Aside0.mk (below_step B6.out hb); have X7 := Aside0.mk (X6.out.below hb); have M7 := Aside0.mk hbox; have G8 := Aside0.mk (show w6.heap.size ≤ g8 from by rw [hg]; exact Nat.le_refl _); have zc0 : w7.cell? ⟨g8, 0, none⟩ = some (.slice none 0 0) := (blk_cell M7.out 0).trans rfl; have zf0 := blk_frozen M7.out 0; have zc1 : w7.cell? ⟨g8, 1, none⟩ = some (.slice none 0 0) := (blk_cell M7.out 1).trans rfl; have zf1 := blk_frozen M7.out 1; clear hb hg hbox))
  have B8 := Aside0.mk (below_setB (below_setB B7.out (p := ⟨g8, 0, none⟩) (Nat.le_trans B6.out.size G8.out) (.slice A0 l0.length c0)) (p := ⟨g8, 1, none⟩) (Nat.le_trans B6.out.size G8.out) (.slice A1 l1.length c1))
  have M8 := Aside0.mk (blk_put (blk_put M7.out 0 (.slice A0 l0.length c0) (cs' := #[.slice A0 l0.length c0, .slice none 0 0]) rfl) 1 (.slice A1 l1.length c1) (cs' := #[.slice A0 l0.length c0, .slice A1 l1.length c1]) rfl)
  have G78 := Aside0.mk (show g7 < g8 from Nat.lt_of_lt_of_le (blk_lt X6.out.1) G8.out)
  have X8 := Aside0.mk (show TB w.heap.size (fun k => k ≠ g7 ∧ k ≠ g8) ((w7.setCell ⟨g8, 0, none⟩ (.slice A0 l0.length c0)).setCell ⟨g8, 1, none⟩ (.slice A1 l1.length c1)) g7 (s0 [] 0) (s1 [] 0) A3 c3 A5 c5 from
    ⟨blk_far (blk_far X7.out.1 (p := ⟨g8, 0, none⟩) (Nat.ne_of_lt G78.out) (.slice A0 l0.length c0)) (p := ⟨g8, 1, none⟩) (Nat.ne_of_lt G78.out) (.slice A1 l1.length c1), rfl, rfl, Kd.R_kept (Kd.R_mono (Kd.R_below (Kd.R_bound X6.out.2.2.2.1) HB7.out) (fun k hk => ⟨hk.1, fun e => by subst e; have := hk.2.2.1; have := G8.out; omega⟩)) (((Kept.refl w7 (fun k => k = g8)).setCell (p := ⟨g8, 0, none⟩) (.inl rfl) (.slice A0 l0.length c0)).setCell (p := ⟨g8, 1, none⟩) (.inl rfl) (.slice A1 l1.length c1)) (fun k hk e => hk.2 e), Kd.R_kept (Kd.R_mono (Kd.R_below (Kd.R_bound X6.out.2.2.2.2) HB7.out) (fun k hk => ⟨hk.1, fun e => by subst e; have := hk.2.2.1; have := G8.out; omega⟩)) (((Kept.refl w7 (fun k => k = g8)).setCell (p := ⟨g8, 0, none⟩) (.inl rfl) (.slice A0 l0.length c0)).setCell (p := ⟨g8, 1, none⟩) (.inl rfl) (.slice A1 l1.length c1)) (fun k hk e => hk.2 e)⟩)
  clear B6 X6 B7 X7 M7 G8 HB7 zc0 zf0 zc1 zf1
  generalize ((w7.setCell ⟨g8, 0, none⟩ (.slice A0 l0.length c0)).setCell ⟨g8, 1, none⟩ (.slice A1 l1.length c1)) = w8 at B8 M8 X8 ⊢
  go_loopg [47] 3 (fun kq v47 w' => ∃ (i : Nat) (A : Option Addr) (c : Nat) (B : Option Addr) (d : Nat), v47 = .int .i64 (i : Int) ∧ Aside0 (i ≤ 2 ∧ i + kq = 3) ∧ Aside0 (Below w.heap.size w w') ∧ Aside0 (w'.heap[g8]? = some (.cells #[.slice A0 l0.length c0, .slice A1 l1.length c1] 69 (0, 0))) ∧ Aside0 (TB w.heap.size (fun k => k ≠ g7 ∧ k ≠ g8) w' g7 (s0 (if 0 < i then l0 else []) 0) (s1 (if 1 < i then l1 else []) 0) A c B d))
  case atStart => exact ⟨0, A3, c3, A5, c5, rfl, ⟨by omega, by omega⟩, B8, M8, ⟨by rw [if_neg (by decide), if_neg (by decide)]; exact X8.out⟩⟩
  case round =>
    obtain ⟨i, A, c, B, d, rfl, HI, B9, M9, X9_⟩ := hrel
    clear B8 M8 X8
    have hi : i = 0 ∨ i = 1 ∨ i = 2 := by have := HI.out.1; omega
    rcases hi with rfl | rfl | rfl
    · have X9 := Aside0.mk (show TB w.heap.size (fun k => k ≠ g7 ∧ k ≠ g8) wr g7 (s0 ([]) 0) (s1 [] 0) A c B d by have := X9_.out; simpa using this)
      clear X9_
      have HIk := Aside0.mk HI.out
      clear HI
      have yc0 : wr.cell? ⟨g8, 0, none⟩ = some (.slice A0 l0.length c0) := (blk_cell M9.out 0).trans rfl; have yf0 := blk_frozen M9.out 0; have yc1 : wr.cell? ⟨g8, 1, none⟩ = some (.slice A1 l1.length c1) := (blk_cell M9.out 1).trans rfl; have yf1 := blk_frozen M9.out 1
      go_wp2_with fail
      go_loopg [54] (l0.length + 1) (fun kq v54 w' => ∃ (j : Nat) (A' : Option Addr) (c' : Nat), v54 = .int .i64 (j : Int) ∧ Aside0 (j ≤ l0.length ∧ j + kq = l0.length + 1) ∧ Aside0 (Below w.heap.size w w') ∧ Aside0 (w'.heap[g8]? = some (.cells #[.slice A0 l0.length c0, .slice A1 l1.length c1] 69 (0, 0))) ∧ Aside0 (TB w.heap.size (fun k => k ≠ g7 ∧ k ≠ g8) w' g7 (s0 (l0.take j) 0) (s1 [] 0) A' c' B d))
      case atStart => exact ⟨0, A, c, rfl, ⟨by omega, by omega⟩, B9, M9, X9⟩
      case round =>
        obtain ⟨j, A', c', rfl, HJ, B10, M10, X10⟩ := hrel
        clear B9 M9 X9 yc0 yf0 yc1 yf1
        by_cases hj : j < l0.length
        · have d1 : decide ((j : Int) < (l0.length : Int)) = true := decide_eq_true (by omega)
          have d2 : decide (j < l0.length) = true := decide_eq_true hj
          have d3 : (j < l0.length) = True := eq_true hj
          have hj0 : (0 : Int) ≤ (j : Int) := by omega
          have hj1 : (j : Int) < (l0.length : Int) := by omega
          obtain ⟨ad, A8, C8, A9, C9, ea, x0, x1, x2, x3, x4, x5, x6, x7, x8, x9, x10, l8, g8_, l9, g9⟩ := at_T35 (Kd.C_below HR.out B10.out) (j : Int) hj0 hj1
          have hfit := HF.out _ (show rd_T35 l0 (j : Int) ∈ l0 by rw [rd35_at hj]; exact List.getElem_mem _)
          have htk := take_next35 hj
          subst ea
          obtain ⟨m, hq⟩ : ∃ m, m = rd_T35 l0 (j : Int) := ⟨_, rfl⟩
          rw [← hq] at x0 x1 x2 x3 x4 x5 x6 x7 x8 x9 x10 l8 g8_ l9 g9 hfit htk
          rw [Int.toNat_natCast] at x0 x1 x2 x3 x4 x5 x6 x7 x8 x9 x10
          have E8 := Aside0.mk g8_; have E9 := Aside0.mk g9; have FT := Aside0.mk hfit; have HTK := Aside0.mk htk
          have b1 : wrap64 ((j : Int) + 1) = ((j + 1 : Nat) : Int) := by have := H20.out; unfold wrap64; omega
          have q1 := eq_true hj0; have q2 := eq_true hj1; have q3 : decide ((0 : Int) ≤ (j : Int)) = true := decide_eq_true hj0
          have NK := Aside0.mk (nkC hj HJ.out)
          have HTL := Aside0.mk (show (l0.take j).length < 4096 by rw [List.length_take]; have := H20.out; omega)
          have e64 := Aside0.mk (show wrap64 (1 : Int) = ((1 : Nat) : Int) by unfold wrap64; omega)
          have e64b := Aside0.mk (show wrap64 (0 : Int) = ((0 : Nat) : Int) by unfold wrap64; omega)
          clear hj hj0 hj1 g8_ g9 hfit hq l8 l9 htk
          go_upto_region 15 with (first | ((with_reducible refine gate_dst (N := 11) rfl ?_); refine box_event ?hg (N := 11) ?hd (cs := #[.int .i64 0, .int .i64 0, .int .i64 0, .int .i64 0, .int .i64 0, .int .i64 0, .int .i64 0, .int .i64 0, .bool false, .slice none 0 0, .slice none 0 0]) (t := 35) ?hr ?_; (case hd => rfl); (case hg => rfl); (case hr => first | (go_simp; done) | (go_simp; rfl)); intro g11 hg w9m hbox hb; have ZB := Aside0.mk hb; have ZX := Aside0.mk hbox; have N9g := Aside0.mk (show wr.heap.size ≤ g11 from by rw [hg]; exact Nat.le_refl _); have m_zc0 : w9m.cell? ⟨g11, 0, none⟩ = some (.int .i64 0) := (blk_cell ZX.out 0).trans rfl; have m_zf0 := blk_frozen ZX.out 0; have m_zc1 : w9m.cell? ⟨g11, 1, none⟩ = some (.int .i64 0) := (blk_cell ZX.out 1).trans rfl; have m_zf1 := blk_frozen ZX.out 1; have m_zc2 : w9m.cell? ⟨g11, 2, none⟩ = some (.int .i64 0) := (blk_cell ZX.out 2).trans rfl; have m_zf2 := blk_frozen ZX.out 2; have m_zc3 : w9m.cell? ⟨g11, 3, none⟩ = some (.int .i64 0) := (blk_cell ZX.out 3).trans rfl; have m_zf3 := blk_frozen ZX.out 3; have m_zc4 : w9m.cell? ⟨g11, 4, none⟩ = some (.int .i64 0) := (blk_cell ZX.out 4).trans rfl; have m_zf4 := blk_frozen ZX.out 4; have m_zc5 : w9m.cell? ⟨g11, 5, none⟩ = some (.int .i64 0) := (blk_cell ZX.out 5).trans rfl; have m_zf5 := blk_frozen ZX.out 5; have m_zc6 : w9m.cell? ⟨g11, 6, none⟩ = some (.int .i64 0) := (blk_cell ZX.out 6).trans rfl; have m_zf6 := blk_frozen ZX.out 6; have m_zc7 : w9m.cell? ⟨g11, 7, none⟩ = some (.int .i64 0) := (blk_cell ZX.out 7).trans rfl; have m_zf7 := blk_frozen ZX.out 7; have m_zc8 : w9m.cell? ⟨g11, 8, none⟩ = some (.bool false) := (blk_cell ZX.out 8).trans rfl; have m_zf8 := blk_frozen ZX.out 8; have m_zc9 : w9m.cell? ⟨g11, 9, none⟩ = some (.slice none 0 0) := (blk_cell ZX.out 9).trans rfl; have m_zf9 := blk_frozen ZX.out 9; have m_zc10 : w9m.cell? ⟨g11, 10, none⟩ = some (.slice none 0 0) := (blk_cell ZX.out 10).trans rfl; have m_zf10 := blk_frozen ZX.out 10; clear hb hg hbox))
          have NB9 := Aside0.mk (below_setB (below_setB (below_setB (below_setB (below_setB (below_setB (below_setB (below_setB (below_setB (below_setB (below_setB ZB.out (p := ⟨g11, 0, none⟩) N9g.out (.int .i64 m.f0)) (p := ⟨g11, 1, none⟩) N9g.out (.int .i64 m.f1.f0)) (p := ⟨g11, 2, none⟩) N9g.out (.int .i64 m.f1.f1)) (p := ⟨g11, 3, none⟩) N9g.out (.int .i64 m.f2)) (p := ⟨g11, 4, none⟩) N9g.out (.int .i64 m.f3)) (p := ⟨g11, 5, none⟩) N9g.out (.int .i64 m.f4)) (p := ⟨g11, 6, none⟩) N9g.out (.int .i64 m.f5)) (p := ⟨g11, 7, none⟩) N9g.out (.int .i64 m.f6)) (p := ⟨g11, 8, none⟩) N9g.out (.bool m.f7)) (p := ⟨g11, 9, none⟩) N9g.out (.slice A8 m.f8.length C8)) (p := ⟨g11, 10, none⟩) N9g.out (.slice A9 m.f9.length C9)); have N9 := Aside0.mk (blk_put (blk_put (blk_put (blk_put (blk_put (blk_put (blk_put (blk_put (blk_put (blk_put (blk_put ZX.out 0 (.int .i64 m.f0) (cs' := #[.int .i64 m.f0, .int .i64 0, .int .i64 0, .int .i64 0, .int .i64 0, .int .i64 0, .int .i64 0, .int .i64 0, .bool false, .slice none 0 0, .slice none 0 0]) rfl) 1 (.int .i64 m.f1.f0) (cs' := #[.int .i64 m.f0, .int .i64 m.f1.f0, .int .i64 0, .int .i64 0, .int .i64 0, .int .i64 0, .int .i64 0, .int .i64 0, .bool false, .slice none 0 0, .slice none 0 0]) rfl) 2 (.int .i64 m.f1.f1) (cs' := #[.int .i64 m.f0, .int .i64 m.f1.f0, .int .i64 m.f1.f1, .int .i64 0, .int .i64 0, .int .i64 0, .int .i64 0, .int .i64 0, .bool false, .slice none 0 0, .slice none 0 0]) rfl) 3 (.int .i64 m.f2) (cs' := #[.int .i64 m.f0, .int .i64 m.f1.f0, .int .i64 m.f1.f1, .int .i64 m.f2, .int .i64 0, .int .i64 0, .int .i64 0, .int .i64 0, .bool false, .slice none 0 0, .slice none 0 0]) rfl) 4 (.int .i64 m.f3) (cs' := #[.int .i64 m.f0, .int .i64 m.f1.f0, .int .i64 m.f1.f1, .int .i64 m.f2, .int .i64 m.f3, .int .i64 0, .int .i64 0, .int .i64 0, .bool false, .slice none 0 0, .slice none 0 0]) rfl) 5 (.int .i64 m.f4) (cs' := #[.int .i64 m.f0, .int .i64 m.f1.f0, .int .i64 m.f1.f1, .int .i64 m.f2, .int .i64 m.f3, .int .i64 m.f4, .int .i64 0, .int .i64 0, .bool false, .slice none 0 0, .slice none 0 0]) rfl) 6 (.int .i64 m.f5) (cs' := #[.int .i64 m.f0, .int .i64 m.f1.f0, .int .i64 m.f1.f1, .int .i64 m.f2, .int .i64 m.f3, .int .i64 m.f4, .int .i64 m.f5, .int .i64 0, .bool false, .slice none 0 0, .slice none 0 0]) rfl) 7 (.int .i64 m.f6) (cs' := #[.int .i64 m.f0, .int .i64 m.f1.f0, .int .i64 m.f1.f1, .int .i64 m.f2, .int .i64 m.f3, .int .i64 m.f4, .int .i64 m.f5, .int .i64 m.f6, .bool false, .slice none 0 0, .slice none 0 0]) rfl) 8 (.bool m.f7) (cs' := #[.int .i64 m.f0, .int .i64 m.f1.f0, .int .i64 m.f1.f1, .int .i64 m.f2, .int .i64 m.f3, .int .i64 m.f4, .int .i64 m.f5, .int .i64 m.f6, .bool m.f7, .slice none 0 0, .slice none 0 0]) rfl) 9 (.slice A8 m.f8.length C8) (cs' := #[.int .i64 m.f0, .int .i64 m.f1.f0, .int .i64 m.f1.f1, .int .i64 m.f2, .int .i64 m.f3, .int .i64 m.f4, .int .i64 m.f5, .int .i64 m.f6, .bool m.f7, .slice A8 m.f8.length C8, .slice none 0 0]) rfl) 10 (.slice A9 m.f9.length C9) (cs' := #[.int .i64 m.f0, .int .i64 m.f1.f0, .int .i64 m.f1.f1, .int .i64 m.f2, .int .i64 m.f3, .int .i64 m.f4, .int .i64 m.f5, .int .i64 m.f6, .bool m.f7, .slice A8 m.f8.length C8, .slice A9 m.f9.length C9]) rfl); clear ZB ZX m_zc0 m_zf0 m_zc1 m_zf1 m_zc2 m_zf2 m_zc3 m_zf3 m_zc4 m_zf4 m_zc5 m_zf5 m_zc6 m_zf6 m_zc7 m_zf7 m_zc8 m_zf8 m_zc9 m_zf9 m_zc10 m_zf10; generalize (((((((((((w9m.setCell ⟨g11, 0, none⟩ (.int .i64 m.f0)).setCell ⟨g11, 1, none⟩ (.int .i64 m.f1.f0)).setCell ⟨g11, 2, none⟩ (.int .i64 m.f1.f1)).setCell ⟨g11, 3, none⟩ (.int .i64 m.f2)).setCell ⟨g11, 4, none⟩ (.int .i64 m.f3)).setCell ⟨g11, 5, none⟩ (.int .i64 m.f4)).setCell ⟨g11, 6, none⟩ (.int .i64 m.f5)).setCell ⟨g11, 7, none⟩ (.int .i64 m.f6)).setCell ⟨g11, 8, none⟩ (.bool m.f7)).setCell ⟨g11, 9, none⟩ (.slice A8 m.f8.length C8)).setCell ⟨g11, 10, none⟩ (.slice A9 m.f9.length C9)) = w9 at NB9 N9 ⊢; have B11 := Aside0.mk (below_step B10.out NB9.out); have X11 := Aside0.mk (X10.out.below NB9.out); have M11 := Aside0.mk (blk_below M10.out NB9.out); have G8_ := Aside0.mk (Kd.C_below E8.out NB9.out); have G9_ := Aside0.mk (Kd.C_below E9.out NB9.out)
          refine start_ (n := 13) (S := fun w' => w'.cell? ⟨g7, 0, none⟩ = some (.int .i64 0) ∧ w'.cell? ⟨g7, 1, none⟩ = some (.slice A' 2 c') ∧ w'.cell? ⟨g11, 0, none⟩ = some (.int .i64 m.f0) ∧ w'.cell? ⟨g11, 1, none⟩ = some (.int .i64 m.f1.f0) ∧ w'.cell? ⟨g11, 2, none⟩ = some (.int .i64 m.f1.f1) ∧ w'.cell? ⟨g11, 3, none⟩ = some (.int .i64 m.f2) ∧ w'.cell? ⟨g11, 4, none⟩ = some (.int .i64 m.f3) ∧ w'.cell? ⟨g11, 5, none⟩ = some (.int .i64 m.f4) ∧ w'.cell? ⟨g11, 6, none⟩ = some (.int .i64 m.f5) ∧ w'.cell? ⟨g11, 7, none⟩ = some (.int .i64 m.f6) ∧ w'.cell? ⟨g11, 8, none⟩ = some (.bool m.f7) ∧ w'.cell? ⟨g11, 9, none⟩ = some (.slice A8 m.f8.length C8) ∧ w'.cell? ⟨g11, 10, none⟩ = some (.slice A9 m.f9.length C9)) (ds := [7, 12]) #[false, false, false, false, false, false, false, false, false, false, false, false, false] (by kernel_rfl) rfl rfl ⟨(blk_cell (blk_drew X11.out.1) 0).trans rfl, (blk_cell (blk_drew X11.out.1) 1).trans rfl, (blk_cell (blk_drew N9.out) 0).trans rfl, (blk_cell (blk_drew N9.out) 1).trans rfl, (blk_cell (blk_drew N9.out) 2).trans rfl, (blk_cell (blk_drew N9.out) 3).trans rfl, (blk_cell (blk_drew N9.out) 4).trans rfl, (blk_cell (blk_drew N9.out) 5).trans rfl, (blk_cell (blk_drew N9.out) 6).trans rfl, (blk_cell (blk_drew N9.out) 7).trans rfl, (blk_cell (blk_drew N9.out) 8).trans rfl, (blk_cell (blk_drew N9.out) 9).trans rfl, (blk_cell (blk_drew N9.out) 10).trans rfl⟩ (fun hHeld => ?_)
          refine pure_ (i := 0) (N := some 59) (v := ?_) (a' := ?_) #[true, false, false, false, false, false, false, false, false, false, false, false, false] rfl rfl (by kernel_rfl) (fun _ _ _ h => h) (Or.inl ⟨by rfl, ?_⟩) ?_ ?_
          rotate_left
          · intro w'
            go_simp
            with_reducible rfl
          rotate_left
          · simp only [Act.put, List.setIfInBounds_toArray, List.set_cons_zero, List.set_cons_succ, i64_w, i32_w]
            rfl
          refine pure_ (i := 1) (N := some 60) (v := ?_) (a' := ?_) #[true, true, false, false, false, false, false, false, false, false, false, false, false] rfl rfl (by kernel_rfl) (fun _ _ _ h => h) (Or.inl ⟨by rfl, ?_⟩) ?_ ?_
          rotate_left
          · intro w'
            go_simp
            with_reducible rfl
          rotate_left
          · simp only [Act.put, List.setIfInBounds_toArray, List.set_cons_zero, List.set_cons_succ, i64_w, i32_w]
            rfl
          refine pure_ (i := 2) (N := some 61) (v := ?_) (a' := ?_) #[true, true, true, false, false, false, false, false, false, false, false, false, false] rfl rfl (by kernel_rfl) (fun _ _ _ h => h) (Or.inl ⟨by rfl, ?_⟩) ?_ ?_
          rotate_left
          · intro w'
            go_simp
            with_reducible rfl
          rotate_left
          · simp only [Act.put, List.setIfInBounds_toArray, List.set_cons_zero, List.set_cons_succ, i64_w, i32_w]
            rfl
          refine pure_ (i := 4) (N := some 63) (v := ?_) (a' := ?_) #[true, true, true, false, true, false, false, false, false, false, false, false, false] rfl rfl (by kernel_rfl) (fun _ _ _ h => h) (Or.inl ⟨by rfl, ?_⟩) ?_ ?_
          rotate_left
          · intro w'
            go_simp
            with_reducible rfl
          rotate_left
          · simp only [Act.put, List.setIfInBounds_toArray, List.set_cons_zero, List.set_cons_succ, i64_w, i32_w]
            rfl
          refine pure_ (i := 5) (N := some 64) (v := ?_) (a' := ?_) #[true, true, true, false, true, true, false, false, false, false, false, false, false] rfl rfl (by kernel_rfl) (fun _ _ _ h => h) (Or.inl ⟨by rfl, ?_⟩) ?_ ?_
          rotate_left
          · intro w'
            go_simp
            with_reducible rfl
          rotate_left
          · simp only [Act.put, List.setIfInBounds_toArray, List.set_cons_zero, List.set_cons_succ, i64_w, i32_w]
            rfl
          refine take_ (i := 3) (N := some 62) (v := ?_) (a' := ?_) #[true, true, true, true, true, true, false, false, false, false, false, false, false] rfl rfl (by kernel_rfl) (fun _ _ _ h => h) (Or.inl ⟨by rfl, ?_⟩) hHeld ?_ ?_
          rotate_left
          · rintro w' ⟨s0, s1, s2, s3, s4, s5, s6, s7, s8, s9, s10, s11, s12⟩
            go_simp
            with_reducible rfl
          rotate_left
          · simp only [Act.put, List.setIfInBounds_toArray, List.set_cons_zero, List.set_cons_succ, i64_w, i32_w]
            rfl
          refine take_ (i := 6) (N := some 65) (v := ?_) (a' := ?_) #[true, true, true, true, true, true, true, false, false, false, false, false, false] rfl rfl (by kernel_rfl) (fun _ _ _ h => h) (Or.inl ⟨by rfl, ?_⟩) hHeld ?_ ?_
          rotate_left
          · rintro w' ⟨s0, s1, s2, s3, s4, s5, s6, s7, s8, s9, s10, s11, s12⟩
            go_simp
            with_reducible rfl
          rotate_left
          · simp only [Act.put, List.setIfInBounds_toArray, List.set_cons_zero, List.set_cons_succ, i64_w, i32_w]
            rfl
          refine last_ (i := 7) (N := some 66) #[true, true, true, true, true, true, true, true, false, false, false, false, false] rfl rfl (by kernel_rfl) (by decide) (fun K hK => ?_)
          refine goes_ Try.func20 (by kernel_rfl) rfl #[.agg #[.int .i64 0, .slice A' 2 c'], .int .i64 (wrap64 1), .agg #[.int .i64 m.f0, .int .i64 m.f1.f0, .int .i64 m.f1.f1, .int .i64 m.f2, .int .i64 m.f3, .int .i64 m.f4, .int .i64 m.f5, .int .i64 m.f6, .bool m.f7, .slice A8 m.f8.length C8, .slice A9 m.f9.length C9]] (by rfl) rfl rfl (by simp only [List.map_toArray, List.map_cons, List.map_nil]; rfl) ?_
          rw [e64.out]
          with_reducible refine (links_Say (t := 1) (me := 0) (l := s0 (l0.take j) 0) (m := m) (A8 := A8) (C8 := C8) (A9 := A9) (C9 := C9) (w := w9.drew) (s0_two _ _) (le_drew B11.out.size) X11.out.drew.R0 (fit_s0' HTL.out) (s0_lt _ _) ne_10 (s0_said HTL.out) (Kd.C_below G8_.out (below_drew (Below.refl _ _))) (Kd.C_below G9_.out (below_drew (Below.refl _ _))) FT.out).mono ?_
          rintro x w12 ⟨A12, c12, rfl, hR, hb⟩
          refine ⟨_, rfl, ?_⟩
          rw [← s0_two] at hR
          rw [← s0_two]
          rw [s0_say, ← HTK.out] at hR
          have R12 := Aside0.mk (okn_of hR (fun k hk => ⟨fun e => by subst e; exact absurd (blk_lt X11.out.drew.blk) (Nat.not_lt.mpr hk), fun e => by subst e; exact absurd (blk_lt (blk_drew M11.out)) (Nat.not_lt.mpr hk)⟩))
          have B12 := Aside0.mk (below_step (below_drew B11.out) hb)
          have X12 := Aside0.mk (X11.out.drew.below hb)
          have M12 := Aside0.mk (blk_below (blk_drew M11.out) hb)
          have tc0 : w12.cell? ⟨g7, 0, none⟩ = some (.int .i64 0) := (blk_cell X12.out.blk 0).trans rfl
          have tf0 := blk_frozen X12.out.blk 0
          have tc1 : w12.cell? ⟨g7, 1, none⟩ = some (.slice A' 2 c') := (blk_cell X12.out.blk 1).trans rfl
          have tf1 := blk_frozen X12.out.blk 1
          have tc2 : w12.cell? ⟨g7, 2, none⟩ = some (.int .i64 1) := (blk_cell X12.out.blk 2).trans rfl
          have tf2 := blk_frozen X12.out.blk 2
          have tc3 : w12.cell? ⟨g7, 3, none⟩ = some (.slice B 2 d) := (blk_cell X12.out.blk 3).trans rfl
          have tf3 := blk_frozen X12.out.blk 3
          clear hb hR
          refine hK.out _ _ ?_
          clear hK K
          refine norm_ (a' := ?_) ?_ ?_
          rotate_left
          · show Act.put _ (some 66) _ = _
            simp only [Act.put, List.setIfInBounds_toArray, List.set_cons_zero, List.set_cons_succ, i64_w, i32_w]
            rfl
          refine pure_ (i := 8) (N := some 58) (v := ?_) (a' := ?_) #[true, true, true, true, true, true, true, true, true, false, false, false, false] rfl rfl (by kernel_rfl) (fun _ _ _ h => h) (Or.inl ⟨by rfl, ?_⟩) ?_ ?_
          rotate_left
          · intro w'
            go_simp
            with_reducible rfl
          rotate_left
          · simp only [Act.put, List.setIfInBounds_toArray, List.set_cons_zero, List.set_cons_succ, i64_w, i32_w]
            rfl
          refine pure_ (i := 9) (N := some 67) (v := ?_) (a' := ?_) #[true, true, true, true, true, true, true, true, true, true, false, false, false] rfl rfl (by kernel_rfl) (fun _ _ _ h => h) (Or.inl ⟨by rfl, ?_⟩) ?_ ?_
          rotate_left
          · intro w'
            go_simp
            with_reducible rfl
          rotate_left
          · simp only [Act.put, List.setIfInBounds_toArray, List.set_cons_zero, List.set_cons_succ, i64_w, i32_w]
            rfl
          refine pure_ (i := 10) (N := some 68) (v := ?_) (a' := ?_) #[true, true, true, true, true, true, true, true, true, true, true, false, false] rfl rfl (by kernel_rfl) (fun _ _ _ h => h) (Or.inl ⟨by rfl, ?_⟩) ?_ ?_
          rotate_left
          · intro w'
            go_simp
            with_reducible rfl
          rotate_left
          · simp only [Act.put, List.setIfInBounds_toArray, List.set_cons_zero, List.set_cons_succ, i64_w, i32_w]
            rfl
          refine pure_ (i := 11) (N := some 69) (v := ?_) (a' := ?_) #[true, true, true, true, true, true, true, true, true, true, true, true, false] rfl rfl (by kernel_rfl) (fun _ _ _ h => h) (Or.inl ⟨by rfl, ?_⟩) ?_ ?_
          rotate_left
          · intro w'
            go_simp
            with_reducible rfl
          rotate_left
          · simp only [Act.put, List.setIfInBounds_toArray, List.set_cons_zero, List.set_cons_succ, i64_w, i32_w]
            rfl
          refine last_ (i := 12) (N := none) #[true, true, true, true, true, true, true, true, true, true, true, true, true] rfl rfl (by kernel_rfl) (by decide) (fun K hK => ?_)
          refine skip_ (w1 := ?_) (by rfl) rfl ?_ ?_
          rotate_left
          · go_simp
            rfl
          refine hK.out _ _ ?_
          clear hK K
          refine done_ (by kernel_rfl) ?_
          have B13 := Aside0.mk (below_setB (below_setB B12.out (p := ⟨g7, 0, none⟩) G7.out (.int .i64 0)) (p := ⟨g7, 1, none⟩) G7.out (.slice A12 2 c12))
          have M13 := Aside0.mk (blk_far (blk_far M12.out (p := ⟨g7, 0, none⟩) (Nat.ne_of_gt G78.out) (.int .i64 0)) (p := ⟨g7, 1, none⟩) (Nat.ne_of_gt G78.out) (.slice A12 2 c12))
          have X13 := Aside0.mk (show TB w.heap.size (fun k => k ≠ g7 ∧ k ≠ g8) ((w12.setCell ⟨g7, 0, none⟩ (.int .i64 0)).setCell ⟨g7, 1, none⟩ (.slice A12 2 c12)) g7 (s0 (l0.take (j + 1)) 0) (s1 [] 0) A12 c12 B d from X12.out.put0 rfl R12.out (fun k hk => hk.1))
          clear tc0 tf0 tc1 tf1 tc2 tf2 tc3 tf3 B11 X11 M11 B12 X12 M12 R12 NB9 N9 G8_ G9_ B10 X10 M10
          generalize ((w12.setCell ⟨g7, 0, none⟩ (.int .i64 0)).setCell ⟨g7, 1, none⟩ (.slice A12 2 c12)) = w13 at B13 M13 X13 ⊢
          go_wp2_with fail
          go_roundg (gk - 1)
          case measure => have := NK.out.2; omega
          case rel => exact ⟨j + 1, A12, c12, by (first | rw [b1] | rfl), ⟨NK.out.1⟩, B13, M13, X13⟩
        have d1 : decide ((j : Int) < (l0.length : Int)) = false := decide_eq_false (by omega)
        have d2 : decide (j < l0.length) = false := decide_eq_false hj
        have d3 : (j < l0.length) = False := eq_false hj
        have X14 := Aside0.mk (show TB w.heap.size (fun k => k ≠ g7 ∧ k ≠ g8) wr g7 (s0 (l0) 0) (s1 [] 0) A' c' B d by have := X10.out; rwa [List.take_of_length_le (Nat.not_lt.mp hj)] at this); have B14 := Aside0.mk B10.out; have M14 := Aside0.mk M10.out
        clear hj HJ B10 X10 M10
        go_wp2_with fail
        go_roundg 2
        case measure => have := HIk.out; omega
        case rel => exact ⟨1, A', c', B, d, rfl, ⟨by omega, by have := HIk.out; omega⟩, B14, M14, ⟨by simpa using X14.out⟩⟩
    · have X9 := Aside0.mk (show TB w.heap.size (fun k => k ≠ g7 ∧ k ≠ g8) wr g7 (s0 l0 0) (s1 ([]) 0) A c B d by have := X9_.out; simpa using this)
      clear X9_
      have HIk := Aside0.mk HI.out
      clear HI
      have yc0 : wr.cell? ⟨g8, 0, none⟩ = some (.slice A0 l0.length c0) := (blk_cell M9.out 0).trans rfl; have yf0 := blk_frozen M9.out 0; have yc1 : wr.cell? ⟨g8, 1, none⟩ = some (.slice A1 l1.length c1) := (blk_cell M9.out 1).trans rfl; have yf1 := blk_frozen M9.out 1
      go_wp2_with fail
      go_loopg [54] (l1.length + 1) (fun kq v54 w' => ∃ (j : Nat) (A' : Option Addr) (c' : Nat), v54 = .int .i64 (j : Int) ∧ Aside0 (j ≤ l1.length ∧ j + kq = l1.length + 1) ∧ Aside0 (Below w.heap.size w w') ∧ Aside0 (w'.heap[g8]? = some (.cells #[.slice A0 l0.length c0, .slice A1 l1.length c1] 69 (0, 0))) ∧ Aside0 (TB w.heap.size (fun k => k ≠ g7 ∧ k ≠ g8) w' g7 (s0 l0 0) (s1 (l1.take j) 0) A c A' c'))
      case atStart => exact ⟨0, B, d, rfl, ⟨by omega, by omega⟩, B9, M9, X9⟩
      case round =>
        obtain ⟨j, A', c', rfl, HJ, B10, M10, X10⟩ := hrel
        clear B9 M9 X9 yc0 yf0 yc1 yf1
        by_cases hj : j < l1.length
        · have d1 : decide ((j : Int) < (l1.length : Int)) = true := decide_eq_true (by omega)
          have d2 : decide (j < l1.length) = true := decide_eq_true hj
          have d3 : (j < l1.length) = True := eq_true hj
          have hj0 : (0 : Int) ≤ (j : Int) := by omega
          have hj1 : (j : Int) < (l1.length : Int) := by omega
          obtain ⟨ad, A8, C8, A9, C9, ea, x0, x1, x2, x3, x4, x5, x6, x7, x8, x9, x10, l8, g8_, l9, g9⟩ := at_T35 (Kd.C_below HR1.out B10.out) (j : Int) hj0 hj1
          have hfit := HF1.out _ (show rd_T35 l1 (j : Int) ∈ l1 by rw [rd35_at hj]; exact List.getElem_mem _)
          have htk := take_next35 hj
          subst ea
          obtain ⟨m, hq⟩ : ∃ m, m = rd_T35 l1 (j : Int) := ⟨_, rfl⟩
          rw [← hq] at x0 x1 x2 x3 x4 x5 x6 x7 x8 x9 x10 l8 g8_ l9 g9 hfit htk
          rw [Int.toNat_natCast] at x0 x1 x2 x3 x4 x5 x6 x7 x8 x9 x10
          have E8 := Aside0.mk g8_; have E9 := Aside0.mk g9; have FT := Aside0.mk hfit; have HTK := Aside0.mk htk
          have b1 : wrap64 ((j : Int) + 1) = ((j + 1 : Nat) : Int) := by have := H20.out; unfold wrap64; omega
          have q1 := eq_true hj0; have q2 := eq_true hj1; have q3 : decide ((0 : Int) ≤ (j : Int)) = true := decide_eq_true hj0
          have NK := Aside0.mk (nkC hj HJ.out)
          have HTL := Aside0.mk (show (l1.take j).length < 4096 by rw [List.length_take]; have := H20.out; omega)
          have e64 := Aside0.mk (show wrap64 (1 : Int) = ((1 : Nat) : Int) by unfold wrap64; omega)
          have e64b := Aside0.mk (show wrap64 (0 : Int) = ((0 : Nat) : Int) by unfold wrap64; omega)
          clear hj hj0 hj1 g8_ g9 hfit hq l8 l9 htk
          go_upto_region 15 with (first | ((with_reducible refine gate_dst (N := 11) rfl ?_); refine box_event ?hg (N := 11) ?hd (cs := #[.int .i64 0, .int .i64 0, .int .i64 0, .int .i64 0, .int .i64 0, .int .i64 0, .int .i64 0, .int .i64 0, .bool false, .slice none 0 0, .slice none 0 0]) (t := 35) ?hr ?_; (case hd => rfl); (case hg => rfl); (case hr => first | (go_simp; done) | (go_simp; rfl)); intro g11 hg w9m hbox hb; have ZB := Aside0.mk hb; have ZX := Aside0.mk hbox; have N9g := Aside0.mk (show wr.heap.size ≤ g11 from by rw [hg]; exact Nat.le_refl _); have m_zc0 : w9m.cell? ⟨g11, 0, none⟩ = some (.int .i64 0) := (blk_cell ZX.out 0).trans rfl; have m_zf0 := blk_frozen ZX.out 0; have m_zc1 : w9m.cell? ⟨g11, 1, none⟩ = some (.int .i64 0) := (blk_cell ZX.out 1).trans rfl; have m_zf1 := blk_frozen ZX.out 1; have m_zc2 : w9m.cell? ⟨g11, 2, none⟩ = some (.int .i64 0) := (blk_cell ZX.out 2).trans rfl; have m_zf2 := blk_frozen ZX.out 2; have m_zc3 : w9m.cell? ⟨g11, 3, none⟩ = some (.int .i64 0) := (blk_cell ZX.out 3).trans rfl; have m_zf3 := blk_frozen ZX.out 3; have m_zc4 : w9m.cell? ⟨g11, 4, none⟩ = some (.int .i64 0) := (blk_cell ZX.out 4).trans rfl; have m_zf4 := blk_frozen ZX.out 4; have m_zc5 : w9m.cell? ⟨g11, 5, none⟩ = some (.int .i64 0) := (blk_cell ZX.out 5).trans rfl; have m_zf5 := blk_frozen ZX.out 5; have m_zc6 : w9m.cell? ⟨g11, 6, none⟩ = some (.int .i64 0) := (blk_cell ZX.out 6).trans rfl; have m_zf6 := blk_frozen ZX.out 6; have m_zc7 : w9m.cell? ⟨g11, 7, none⟩ = some (.int .i64 0) := (blk_cell ZX.out 7).trans rfl; have m_zf7 := blk_frozen ZX.out 7; have m_zc8 : w9m.cell? ⟨g11, 8, none⟩ = some (.bool false) := (blk_cell ZX.out 8).trans rfl; have m_zf8 := blk_frozen ZX.out 8; have m_zc9 : w9m.cell? ⟨g11, 9, none⟩ = some (.slice none 0 0) := (blk_cell ZX.out 9).trans rfl; have m_zf9 := blk_frozen ZX.out 9; have m_zc10 : w9m.cell? ⟨g11, 10, none⟩ = some (.slice none 0 0) := (blk_cell ZX.out 10).trans rfl; have m_zf10 := blk_frozen ZX.out 10; clear hb hg hbox))
          have NB9 := Aside0.mk (below_setB (below_setB (below_setB (below_setB (below_setB (below_setB (below_setB (below_setB (below_setB (below_setB (below_setB ZB.out (p := ⟨g11, 0, none⟩) N9g.out (.int .i64 m.f0)) (p := ⟨g11, 1, none⟩) N9g.out (.int .i64 m.f1.f0)) (p := ⟨g11, 2, none⟩) N9g.out (.int .i64 m.f1.f1)) (p := ⟨g11, 3, none⟩) N9g.out (.int .i64 m.f2)) (p := ⟨g11, 4, none⟩) N9g.out (.int .i64 m.f3)) (p := ⟨g11, 5, none⟩) N9g.out (.int .i64 m.f4)) (p := ⟨g11, 6, none⟩) N9g.out (.int .i64 m.f5)) (p := ⟨g11, 7, none⟩) N9g.out (.int .i64 m.f6)) (p := ⟨g11, 8, none⟩) N9g.out (.bool m.f7)) (p := ⟨g11, 9, none⟩) N9g.out (.slice A8 m.f8.length C8)) (p := ⟨g11, 10, none⟩) N9g.out (.slice A9 m.f9.length C9)); have N9 := Aside0.mk (blk_put (blk_put (blk_put (blk_put (blk_put (blk_put (blk_put (blk_put (blk_put (blk_put (blk_put ZX.out 0 (.int .i64 m.f0) (cs' := #[.int .i64 m.f0, .int .i64 0, .int .i64 0, .int .i64 0, .int .i64 0, .int .i64 0, .int .i64 0, .int .i64 0, .bool false, .slice none 0 0, .slice none 0 0]) rfl) 1 (.int .i64 m.f1.f0) (cs' := #[.int .i64 m.f0, .int .i64 m.f1.f0, .int .i64 0, .int .i64 0, .int .i64 0, .int .i64 0, .int .i64 0, .int .i64 0, .bool false, .slice none 0 0, .slice none 0 0]) rfl) 2 (.int .i64 m.f1.f1) (cs' := #[.int .i64 m.f0, .int .i64 m.f1.f0, .int .i64 m.f1.f1, .int .i64 0, .int .i64 0, .int .i64 0, .int .i64 0, .int .i64 0, .bool false, .slice none 0 0, .slice none 0 0]) rfl) 3 (.int .i64 m.f2) (cs' := #[.int .i64 m.f0, .int .i64 m.f1.f0, .int .i64 m.f1.f1, .int .i64 m.f2, .int .i64 0, .int .i64 0, .int .i64 0, .int .i64 0, .bool false, .slice none 0 0, .slice none 0 0]) rfl) 4 (.int .i64 m.f3) (cs' := #[.int .i64 m.f0, .int .i64 m.f1.f0, .int .i64 m.f1.f1, .int .i64 m.f2, .int .i64 m.f3, .int .i64 0, .int .i64 0, .int .i64 0, .bool false, .slice none 0 0, .slice none 0 0]) rfl) 5 (.int .i64 m.f4) (cs' := #[.int .i64 m.f0, .int .i64 m.f1.f0, .int .i64 m.f1.f1, .int .i64 m.f2, .int .i64 m.f3, .int .i64 m.f4, .int .i64 0, .int .i64 0, .bool false, .slice none 0 0, .slice none 0 0]) rfl) 6 (.int .i64 m.f5) (cs' := #[.int .i64 m.f0, .int .i64 m.f1.f0, .int .i64 m.f1.f1, .int .i64 m.f2, .int .i64 m.f3, .int .i64 m.f4, .int .i64 m.f5, .int .i64 0, .bool false, .slice none 0 0, .slice none 0 0]) rfl) 7 (.int .i64 m.f6) (cs' := #[.int .i64 m.f0, .int .i64 m.f1.f0, .int .i64 m.f1.f1, .int .i64 m.f2, .int .i64 m.f3, .int .i64 m.f4, .int .i64 m.f5, .int .i64 m.f6, .bool false, .slice none 0 0, .slice none 0 0]) rfl) 8 (.bool m.f7) (cs' := #[.int .i64 m.f0, .int .i64 m.f1.f0, .int .i64 m.f1.f1, .int .i64 m.f2, .int .i64 m.f3, .int .i64 m.f4, .int .i64 m.f5, .int .i64 m.f6, .bool m.f7, .slice none 0 0, .slice none 0 0]) rfl) 9 (.slice A8 m.f8.length C8) (cs' := #[.int .i64 m.f0, .int .i64 m.f1.f0, .int .i64 m.f1.f1, .int .i64 m.f2, .int .i64 m.f3, .int .i64 m.f4, .int .i64 m.f5, .int .i64 m.f6, .bool m.f7, .slice A8 m.f8.length C8, .slice none 0 0]) rfl) 10 (.slice A9 m.f9.length C9) (cs' := #[.int .i64 m.f0, .int .i64 m.f1.f0, .int .i64 m.f1.f1, .int .i64 m.f2, .int .i64 m.f3, .int .i64 m.f4, .int .i64 m.f5, .int .i64 m.f6, .bool m.f7, .slice A8 m.f8.length C8, .slice A9 m.f9.length C9]) rfl); clear ZB ZX m_zc0 m_zf0 m_zc1 m_zf1 m_zc2 m_zf2 m_zc3 m_zf3 m_zc4 m_zf4 m_zc5 m_zf5 m_zc6 m_zf6 m_zc7 m_zf7 m_zc8 m_zf8 m_zc9 m_zf9 m_zc10 m_zf10; generalize (((((((((((w9m.setCell ⟨g11, 0, none⟩ (.int .i64 m.f0)).setCell ⟨g11, 1, none⟩ (.int .i64 m.f1.f0)).setCell ⟨g11, 2, none⟩ (.int .i64 m.f1.f1)).setCell ⟨g11, 3, none⟩ (.int .i64 m.f2)).setCell ⟨g11, 4, none⟩ (.int .i64 m.f3)).setCell ⟨g11, 5, none⟩ (.int .i64 m.f4)).setCell ⟨g11, 6, none⟩ (.int .i64 m.f5)).setCell ⟨g11, 7, none⟩ (.int .i64 m.f6)).setCell ⟨g11, 8, none⟩ (.bool m.f7)).setCell ⟨g11, 9, none⟩ (.slice A8 m.f8.length C8)).setCell ⟨g11, 10, none⟩ (.slice A9 m.f9.length C9)) = w9 at NB9 N9 ⊢; have B11 := Aside0.mk (below_step B10.out NB9.out); have X11 := Aside0.mk (X10.out.below NB9.out); have M11 := Aside0.mk (blk_below M10.out NB9.out); have G8_ := Aside0.mk (Kd.C_below E8.out NB9.out); have G9_ := Aside0.mk (Kd.C_below E9.out NB9.out)
          refine start_ (n := 13) (S := fun w' => w'.cell? ⟨g7, 2, none⟩ = some (.int .i64 1) ∧ w'.cell? ⟨g7, 3, none⟩ = some (.slice A' 2 c') ∧ w'.cell? ⟨g11, 0, none⟩ = some (.int .i64 m.f0) ∧ w'.cell? ⟨g11, 1, none⟩ = some (.int .i64 m.f1.f0) ∧ w'.cell? ⟨g11, 2, none⟩ = some (.int .i64 m.f1.f1) ∧ w'.cell? ⟨g11, 3, none⟩ = some (.int .i64 m.f2) ∧ w'.cell? ⟨g11, 4, none⟩ = some (.int .i64 m.f3) ∧ w'.cell? ⟨g11, 5, none⟩ = some (.int .i64 m.f4) ∧ w'.cell? ⟨g11, 6, none⟩ = some (.int .i64 m.f5) ∧ w'.cell? ⟨g11, 7, none⟩ = some (.int .i64 m.f6) ∧ w'.cell? ⟨g11, 8, none⟩ = some (.bool m.f7) ∧ w'.cell? ⟨g11, 9, none⟩ = some (.slice A8 m.f8.length C8) ∧ w'.cell? ⟨g11, 10, none⟩ = some (.slice A9 m.f9.length C9)) (ds := [7, 12]) #[false, false, false, false, false, false, false, false, false, false, false, false, false] (by kernel_rfl) rfl rfl ⟨(blk_cell (blk_drew X11.out.1) 2).trans rfl, (blk_cell (blk_drew X11.out.1) 3).trans rfl, (blk_cell (blk_drew N9.out) 0).trans rfl, (blk_cell (blk_drew N9.out) 1).trans rfl, (blk_cell (blk_drew N9.out) 2).trans rfl, (blk_cell (blk_drew N9.out) 3).trans rfl, (blk_cell (blk_drew N9.out) 4).trans rfl, (blk_cell (blk_drew N9.out) 5).trans rfl, (blk_cell (blk_drew N9.out) 6).trans rfl, (blk_cell (blk_drew N9.out) 7).trans rfl, (blk_cell (blk_drew N9.out) 8).trans rfl, (blk_cell (blk_drew N9.out) 9).trans rfl, (blk_cell (blk_drew N9.out) 10).trans rfl⟩ (fun hHeld => ?_)
          refine pure_ (i := 0) (N := some 59) (v := ?_) (a' := ?_) #[true, false, false, false, false, false, false, false, false, false, false, false, false] rfl rfl (by kernel_rfl) (fun _ _ _ h => h) (Or.inl ⟨by rfl, ?_⟩) ?_ ?_
          rotate_left
          · intro w'
            go_simp
            with_reducible rfl
          rotate_left
          · simp only [Act.put, List.setIfInBounds_toArray, List.set_cons_zero, List.set_cons_succ, i64_w, i32_w]
            rfl
          refine pure_ (i := 1) (N := some 60) (v := ?_) (a' := ?_) #[true, true, false, false, false, false, false, false, false, false, false, false, false] rfl rfl (by kernel_rfl) (fun _ _ _ h => h) (Or.inl ⟨by rfl, ?_⟩) ?_ ?_
          rotate_left
          · intro w'
            go_simp
            with_reducible rfl
          rotate_left
          · simp only [Act.put, List.setIfInBounds_toArray, List.set_cons_zero, List.set_cons_succ, i64_w, i32_w]
            rfl
          refine pure_ (i := 2) (N := some 61) (v := ?_) (a' := ?_) #[true, true, true, false, false, false, false, false, false, false, false, false, false] rfl rfl (by kernel_rfl) (fun _ _ _ h => h) (Or.inl ⟨by rfl, ?_⟩) ?_ ?_
          rotate_left
          · intro w'
            go_simp
            with_reducible rfl
          rotate_left
          · simp only [Act.put, List.setIfInBounds_toArray, List.set_cons_zero, List.set_cons_succ, i64_w, i32_w]
            rfl
          refine pure_ (i := 4) (N := some 63) (v := ?_) (a' := ?_) #[true, true, true, false, true, false, false, false, false, false, false, false, false] rfl rfl (by kernel_rfl) (fun _ _ _ h => h) (Or.inl ⟨by rfl, ?_⟩) ?_ ?_
          rotate_left
          · intro w'
            go_simp
            with_reducible rfl
          rotate_left
          · simp only [Act.put, List.setIfInBounds_toArray, List.set_cons_zero, List.set_cons_succ, i64_w, i32_w]
            rfl
          refine pure_ (i := 5) (N := some 64) (v := ?_) (a' := ?_) #[true, true, true, false, true, true, false, false, false, false, false, false, false] rfl rfl (by kernel_rfl) (fun _ _ _ h => h) (Or.inl ⟨by rfl, ?_⟩) ?_ ?_
          rotate_left
          · intro w'
            go_simp
            with_reducible rfl
          rotate_left
          · simp only [Act.put, List.setIfInBounds_toArray, List.set_cons_zero, List.set_cons_succ, i64_w, i32_w]
            rfl
          refine take_ (i := 3) (N := some 62) (v := ?_) (a' := ?_) #[true, true, true, true, true, true, false, false, false, false, false, false, false] rfl rfl (by kernel_rfl) (fun _ _ _ h => h) (Or.inl ⟨by rfl, ?_⟩) hHeld ?_ ?_
          rotate_left
          · rintro w' ⟨s0, s1, s2, s3, s4, s5, s6, s7, s8, s9, s10, s11, s12⟩
            go_simp
            with_reducible rfl
          rotate_left
          · simp only [Act.put, List.setIfInBounds_toArray, List.set_cons_zero, List.set_cons_succ, i64_w, i32_w]
            rfl
          refine take_ (i := 6) (N := some 65) (v := ?_) (a' := ?_) #[true, true, true, true, true, true, true, false, false, false, false, false, false] rfl rfl (by kernel_rfl) (fun _ _ _ h => h) (Or.inl ⟨by rfl, ?_⟩) hHeld ?_ ?_
          rotate_left
          · rintro w' ⟨s0, s1, s2, s3, s4, s5, s6, s7, s8, s9, s10, s11, s12⟩
            go_simp
            with_reducible rfl
          rotate_left
          · simp only [Act.put, List.setIfInBounds_toArray, List.set_cons_zero, List.set_cons_succ, i64_w, i32_w]
            rfl
          refine last_ (i := 7) (N := some 66) #[true, true, true, true, true, true, true, true, false, false, false, false, false] rfl rfl (by kernel_rfl) (by decide) (fun K hK => ?_)
          refine goes_ Try.func20 (by kernel_rfl) rfl #[.agg #[.int .i64 1, .slice A' 2 c'], .int .i64 (wrap64 0), .agg #[.int .i64 m.f0, .int .i64 m.f1.f0, .int .i64 m.f1.f1, .int .i64 m.f2, .int .i64 m.f3, .int .i64 m.f4, .int .i64 m.f5, .int .i64 m.f6, .bool m.f7, .slice A8 m.f8.length C8, .slice A9 m.f9.length C9]] (by rfl) rfl rfl (by simp only [List.map_toArray, List.map_cons, List.map_nil]; rfl) ?_
          rw [e64b.out]
          with_reducible refine (links_Say (t := 0) (me := 1) (l := s1 (l1.take j) 0) (m := m) (A8 := A8) (C8 := C8) (A9 := A9) (C9 := C9) (w := w9.drew) (s1_two _ _) (le_drew B11.out.size) X11.out.drew.R1 (fit_s1' HTL.out) (s1_lt _ _) ne_01 (s1_said HTL.out) (Kd.C_below G8_.out (below_drew (Below.refl _ _))) (Kd.C_below G9_.out (below_drew (Below.refl _ _))) FT.out).mono ?_
          rintro x w12 ⟨A12, c12, rfl, hR, hb⟩
          refine ⟨_, rfl, ?_⟩
          rw [← s1_two] at hR
          rw [← s1_two]
          rw [s1_say, ← HTK.out] at hR
          have R12 := Aside0.mk (okn_of hR (fun k hk => ⟨fun e => by subst e; exact absurd (blk_lt X11.out.drew.blk) (Nat.not_lt.mpr hk), fun e => by subst e; exact absurd (blk_lt (blk_drew M11.out)) (Nat.not_lt.mpr hk)⟩))
          have B12 := Aside0.mk (below_step (below_drew B11.out) hb)
          have X12 := Aside0.mk (X11.out.drew.below hb)
          have M12 := Aside0.mk (blk_below (blk_drew M11.out) hb)
          have tc0 : w12.cell? ⟨g7, 0, none⟩ = some (.int .i64 0) := (blk_cell X12.out.blk 0).trans rfl
          have tf0 := blk_frozen X12.out.blk 0
          have tc1 : w12.cell? ⟨g7, 1, none⟩ = some (.slice A 2 c) := (blk_cell X12.out.blk 1).trans rfl
          have tf1 := blk_frozen X12.out.blk 1
          have tc2 : w12.cell? ⟨g7, 2, none⟩ = some (.int .i64 1) := (blk_cell X12.out.blk 2).trans rfl
          have tf2 := blk_frozen X12.out.blk 2
          have tc3 : w12.cell? ⟨g7, 3, none⟩ = some (.slice A' 2 c') := (blk_cell X12.out.blk 3).trans rfl
          have tf3 := blk_frozen X12.out.blk 3
          clear hb hR
          refine hK.out _ _ ?_
          clear hK K
          refine norm_ (a' := ?_) ?_ ?_
          rotate_left
          · show Act.put _ (some 66) _ = _
            simp only [Act.put, List.setIfInBounds_toArray, List.set_cons_zero, List.set_cons_succ, i64_w, i32_w]
            rfl
          refine pure_ (i := 8) (N := some 58) (v := ?_) (a' := ?_) #[true, true, true, true, true, true, true, true, true, false, false, false, false] rfl rfl (by kernel_rfl) (fun _ _ _ h => h) (Or.inl ⟨by rfl, ?_⟩) ?_ ?_
          rotate_left
          · intro w'
            go_simp
            with_reducible rfl
          rotate_left
          · simp only [Act.put, List.setIfInBounds_toArray, List.set_cons_zero, List.set_cons_succ, i64_w, i32_w]
            rfl
          refine pure_ (i := 9) (N := some 67) (v := ?_) (a' := ?_) #[true, true, true, true, true, true, true, true, true, true, false, false, false] rfl rfl (by kernel_rfl) (fun _ _ _ h => h) (Or.inl ⟨by rfl, ?_⟩) ?_ ?_
          rotate_left
          · intro w'
            go_simp
            with_reducible rfl
          rotate_left
          · simp only [Act.put, List.setIfInBounds_toArray, List.set_cons_zero, List.set_cons_succ, i64_w, i32_w]
            rfl
          refine pure_ (i := 10) (N := some 68) (v := ?_) (a' := ?_) #[true, true, true, true, true, true, true, true, true, true, true, false, false] rfl rfl (by kernel_rfl) (fun _ _ _ h => h) (Or.inl ⟨by rfl, ?_⟩) ?_ ?_
          rotate_left
          · intro w'
            go_simp
            with_reducible rfl
          rotate_left
          · simp only [Act.put, List.setIfInBounds_toArray, List.set_cons_zero, List.set_cons_succ, i64_w, i32_w]
            rfl
          refine pure_ (i := 11) (N := some 69) (v := ?_) (a' := ?_) #[true, true, true, true, true, true, true, true, true, true, true, true, false] rfl rfl (by kernel_rfl) (fun _ _ _ h => h) (Or.inl ⟨by rfl, ?_⟩) ?_ ?_
          rotate_left
          · intro w'
            go_simp
            with_reducible rfl
          rotate_left
          · simp only [Act.put, List.setIfInBounds_toArray, List.set_cons_zero, List.set_cons_succ, i64_w, i32_w]
            rfl
          refine last_ (i := 12) (N := none) #[true, true, true, true, true, true, true, true, true, true, true, true, true] rfl rfl (by kernel_rfl) (by decide) (fun K hK => ?_)
          refine skip_ (w1 := ?_) (by rfl) rfl ?_ ?_
          rotate_left
          · go_simp
            rfl
          refine hK.out _ _ ?_
          clear hK K
          refine done_ (by kernel_rfl) ?_
          have B13 := Aside0.mk (below_setB (below_setB B12.out (p := ⟨g7, 2, none⟩) G7.out (.int .i64 1)) (p := ⟨g7, 3, none⟩) G7.out (.slice A12 2 c12))
          have M13 := Aside0.mk (blk_far (blk_far M12.out (p := ⟨g7, 2, none⟩) (Nat.ne_of_gt G78.out) (.int .i64 1)) (p := ⟨g7, 3, none⟩) (Nat.ne_of_gt G78.out) (.slice A12 2 c12))
          have X13 := Aside0.mk (show TB w.heap.size (fun k => k ≠ g7 ∧ k ≠ g8) ((w12.setCell ⟨g7, 2, none⟩ (.int .i64 1)).setCell ⟨g7, 3, none⟩ (.slice A12 2 c12)) g7 (s0 l0 0) (s1 (l1.take (j + 1)) 0) A c A12 c12 from X12.out.put1 rfl R12.out (fun k hk => hk.1))
          clear tc0 tf0 tc1 tf1 tc2 tf2 tc3 tf3 B11 X11 M11 B12 X12 M12 R12 NB9 N9 G8_ G9_ B10 X10 M10
          generalize ((w12.setCell ⟨g7, 2, none⟩ (.int .i64 1)).setCell ⟨g7, 3, none⟩ (.slice A12 2 c12)) = w13 at B13 M13 X13 ⊢
          go_wp2_with fail
          go_roundg (gk - 1)
          case measure => have := NK.out.2; omega
          case rel => exact ⟨j + 1, A12, c12, by (first | rw [b1] | rfl), ⟨NK.out.1⟩, B13, M13, X13⟩
        have d1 : decide ((j : Int) < (l1.length : Int)) = false := decide_eq_false (by omega)
        have d2 : decide (j < l1.length) = false := decide_eq_false hj
        have d3 : (j < l1.length) = False := eq_false hj
        have X14 := Aside0.mk (show TB w.heap.size (fun k => k ≠ g7 ∧ k ≠ g8) wr g7 (s0 l0 0) (s1 (l1) 0) A c A' c' by have := X10.out; rwa [List.take_of_length_le (Nat.not_lt.mp hj)] at this); have B14 := Aside0.mk B10.out; have M14 := Aside0.mk M10.out
        clear hj HJ B10 X10 M10
        go_wp2_with fail
        go_roundg 1
        case measure => have := HIk.out; omega
        case rel => exact ⟨2, A, c, A', c', rfl, ⟨by omega, by have := HIk.out; omega⟩, B14, M14, ⟨by simpa using X14.out⟩⟩
    have X9 := Aside0.mk (show TB w.heap.size (fun k => k ≠ g7 ∧ k ≠ g8) wr g7 (s0 l0 0) (s1 l1 0) A c B d by have := X9_.out; simpa using this)
    have B9_ := Aside0.mk B9.out; have M9_ := Aside0.mk M9.out
    clear X9_ HI B9 M9
    generalize wr = w9 at X9 B9_ M9_ ⊢
    go_wp2_with (first | ((with_reducible refine gate_dst (N := 72) rfl ?_); refine Kd.R_lit Kd.bool (w0 := w9) w.heap.size 4 ?hg (N := 72) ?hd (xs := ([] : List Bool)) (inner := []) (ok := (fun k => k ≠ g7 ∧ k ≠ g8)) (okp := fun _ => False) ?hr ?hp (fun _ h => h.elim) ⟨fun e => by have := blk_lt X9.out.blk; omega, fun e => by have := blk_lt M9_.out; omega⟩ (Below.refl _ _) B9_.out.size (by simp) ?_; (case hd => rfl); (case hg => rfl); (case hr => first | (go_simp; done) | (go_simp; rfl)); (case hp => exact Reps.none _ _); intro vL w10 hoL hb_ hg_ hnew_; have hbL := below_gn_ hg_; have O10 := Aside0.mk hoL; have B10 := Aside0.mk (below_step B9_.out hbL); have X10 := Aside0.mk (X9.out.bnd.below hbL); have M10 := Aside0.mk (blk_below M9_.out hbL); have S10 := Aside0.mk hbL.size; have V10 := Aside0.mk (show ∀ k, vL.ownBlock = some k → w9.heap.size ≤ k from fun k e => by obtain ⟨b, hb2, hl2⟩ := hnew_; rw [hb2] at e; injection e with e; omega); clear hoL hb_ hg_ hnew_ hbL) | ((with_reducible refine gate_builtin (b := .append) (xs := #[.tmp 72, .tmp 73]) rfl ?_); at_builtin; refine Kd.R_append_rows Kd.bool (Rr := Kd.bool.K w10) (w0 := w10) w.heap.size rfl (.tmp 72) (.tmp 73) 67 4 (.bool false) 1 rfl Try.underlying67 info4_ rfl (by decide) (by omega) vL [] l2 _ _ _ (fun k => k ≠ g7 ∧ k ≠ g8) (fun _ => False) rfl rfl ?aO ?aR (fun _ _ h => h) (fun _ h => h.elim) ?aF ?aB ?aS ?aL ?_; (case aO => exact O10.out); (case aR => exact Kd.C_below HR2.out B10.out); (case aF => exact fun k hk => ⟨fun e => by subst e; exact absurd (blk_lt X10.out.blk) (Nat.not_lt.mpr hk), fun e => by subst e; exact absurd (blk_lt M10.out) (Nat.not_lt.mpr hk)⟩); (case aB => exact Below.mono (Below.refl _ _) (Nat.le_refl _)); (case aS => exact B10.out.size); (case aL => have := H20.out; simp only [List.length_nil]; omega); intro v11 w11 ho hb_ hg hat; rw [List.nil_append] at ho; have O11 := Aside0.mk ho; have B11 := Aside0.mk (below_grown B10.out hg (fun k e => Nat.le_trans B9_.out.size (V10.out k e))); have X11 := Aside0.mk (X10.out.grown hg (fun k hk e => by have := V10.out k e.symm; have := hk.2; omega) (fun e => by have := V10.out _ e.symm; have := blk_lt X9.out.blk; omega)); have M11 := Aside0.mk (blk_grown M10.out hg (fun e => by have := V10.out _ e.symm; have := blk_lt M9_.out; omega)); have S11 := Aside0.mk (Nat.le_trans S10.out hg.size); have V11 := Aside0.mk (show ∀ k, v11.ownBlock = some k → w9.heap.size ≤ k from fun k e => by rcases hat with h | ⟨b, h, hl⟩; (exact V10.out k (by rw [← h]; exact e)); (rw [h] at e; injection e with e; have := S10.out; omega)); clear ho hb_ hg hat) | ((with_reducible refine gate_builtin (b := .append) (xs := #[.tmp 74, .const (.int .i64 1)]) rfl ?_); at_builtin; refine Kd.R_append_zeros Kd.bool (w0 := w11) w.heap.size rfl (.tmp 74) (.const (.int .i64 1)) 67 3 4 (.bool false) 1 rfl Try.underlying67 Try.underlying3 info4_ rfl (by decide) (by omega) v11 l2 false 1 (fun k => k ≠ g7 ∧ k ≠ g8) rfl rfl ?aZ ?aF ?aO (by decide) ?aB ?aS ?aL ?_; (case aZ => exact rfl); (case aF => exact fun k hk => ⟨fun e => by subst e; exact absurd (blk_lt X11.out.blk) (Nat.not_lt.mpr hk), fun e => by subst e; exact absurd (blk_lt M11.out) (Nat.not_lt.mpr hk)⟩); (case aO => exact O11.out); (case aB => exact Below.refl _ _); (case aS => exact B11.out.size); (case aL => have := H20.out; show (l2.length + 1) * 1 ≤ _; omega); intro v12 w12 ho hb_ hg hat; obtain ⟨OL, hOL⟩ : ∃ OL, OL = l2 ++ List.replicate (1 : Int).toNat false := ⟨_, rfl⟩; rw [← hOL] at ho; have HOL := Aside0.mk (show 0 < OL.length ∧ OL.length ≤ 81 by rw [hOL, List.length_append, List.length_replicate]; have := H20.out; exact ⟨Nat.succ_pos _, Nat.succ_le_succ this.2.2⟩); clear hOL; obtain ⟨A12, c12, e12⟩ := Kd.R_slice ho; subst e12; have O12 := Aside0.mk ho; have B12 := Aside0.mk (below_grown B11.out hg (fun k e => Nat.le_trans B9_.out.size (V11.out k e))); have X12 := Aside0.mk (X11.out.grown hg (fun k hk e => by have := V11.out k e.symm; have := hk.2; omega) (fun e => by have := V11.out _ e.symm; have := blk_lt X9.out.blk; omega)); have M12 := Aside0.mk (blk_grown M11.out hg (fun e => by have := V11.out _ e.symm; have := blk_lt M9_.out; omega)); have S12 := Aside0.mk (Nat.le_trans S11.out hg.size); have V12 := Aside0.mk (show ∀ k, (Value.slice A12 OL.length c12).ownBlock = some k → w9.heap.size ≤ k from fun k e => by rcases hat with h | ⟨b, h, hl⟩; (exact V11.out k (by rw [← h]; exact e)); (rw [h] at e; injection e with e; have := S11.out; omega)); clear ho hb_ hg hat))
    obtain ⟨ad, eA, -⟩ := bool_at (Kd.R_reads' O12.out).2.2 HOL.out.1
    subst eA
    have X12_ := Aside0.mk (X12.out.mono (fun k hk => hk.1))
    clear V12 S12 X12 O10 B10 X10 M10 S10 V10 O11 B11 X11 M11 S11 V11 X9 B9_ M9_
    go_loopg [77] (OL.length + 1) (fun kq v77 w' => ∃ (i ha hb : Nat) (A : Option Addr) (c : Nat) (B : Option Addr) (d : Nat), v77 = .int .i64 (i : Int) ∧ Aside0 (i ≤ OL.length ∧ i + kq = OL.length + 1) ∧ Aside0 (ha ≤ l1.length ∧ hb ≤ l0.length) ∧ Aside0 (Below w.heap.size w w') ∧ Aside0 (w'.heap[g8]? = some (.cells #[.slice A0 l0.length c0, .slice A1 l1.length c1] 69 (0, 0))) ∧ Aside0 (TB w.heap.size (fun k => k ≠ g7 ∧ k ≠ g8) w' g7 (s0 l0 ha) (s1 l1 hb) A c B d) ∧ Aside0 (Kd.R Kd.bool 4 w' w.heap.size (fun k => k ≠ g7 ∧ k ≠ g8) (.slice (some ad) OL.length c12) OL))
    case atStart => exact ⟨0, 0, 0, A, c, B, d, rfl, ⟨by omega, by omega⟩, ⟨by omega, by omega⟩, B12, M12, X12_, O12⟩
    case round =>
      obtain ⟨i, ha, hb, A', c', B', d', rfl, HI, HH, B13, M13, X13, O13⟩ := hrel
      clear B12 M12 X12_ O12
      generalize wr = w13 at B13 M13 X13 O13 ⊢
      by_cases hi : i < OL.length
      rotate_left
      · have d1 : decide ((i : Int) < (OL.length : Int)) = false := decide_eq_false (by omega)
        have d2 : decide (i < OL.length) = false := decide_eq_false hi
        have d3 : (i < OL.length) = False := eq_false hi
        clear hi HI O13
        have tc0 : w13.cell? ⟨g7, 0, none⟩ = some (.int .i64 0) := (blk_cell X13.out.blk 0).trans rfl; have tf0 := blk_frozen X13.out.blk 0; have tc1 : w13.cell? ⟨g7, 1, none⟩ = some (.slice A' 2 c') := (blk_cell X13.out.blk 1).trans rfl; have tf1 := blk_frozen X13.out.blk 1; have tc2 : w13.cell? ⟨g7, 2, none⟩ = some (.int .i64 1) := (blk_cell X13.out.blk 2).trans rfl; have tf2 := blk_frozen X13.out.blk 2; have tc3 : w13.cell? ⟨g7, 3, none⟩ = some (.slice B' 2 d') := (blk_cell X13.out.blk 3).trans rfl; have tf3 := blk_frozen X13.out.blk 3
        go_wp2_with fail
        refine (links_Packets (t := 1) (k := l0.length) (l := s0 l0 ha) (w := w13) (s0_two _ _) (Kd.R_reads' X13.out.R0).2.2 (Kd.R_reads' X13.out.R0).2.1 (fit_s0'' H20.out HH.out) (s0_lt _ _) ne_10 (mx_nat _) (fit_T0 HF.out)).mono ?_
        rintro x w24 ⟨v24, rfl, hP, hb⟩
        rw [s0_T, packB_low (Nat.lt_irrefl _)] at hP
        obtain ⟨AQ, cQ, eQ⟩ := Kd.R_slice hP
        subst eQ
        have B24 := Aside0.mk (below_step B13.out hb)
        clear hb hP
        go_wp2_with fail
        go_ret
        exact ⟨rfl, B24.out⟩
      have d1 : decide ((i : Int) < (OL.length : Int)) = true := decide_eq_true (by omega)
      have d2 : decide (i < OL.length) = true := decide_eq_true hi
      have d3 : (i < OL.length) = True := eq_true hi
      have hi0 : (0 : Int) ≤ (i : Int) := by omega
      have hi1 : (i : Int) < (OL.length : Int) := by omega
      have q1 := eq_true hi0; have q2 := eq_true hi1; have q3 : decide ((0 : Int) ≤ (i : Int)) = true := decide_eq_true hi0
      have NK := Aside0.mk (nkC hi HI.out)
      have b1 : wrap64 ((i : Int) + 1) = ((i + 1 : Nat) : Int) := by have := HOL.out; unfold wrap64; omega
      obtain ⟨ad_, eA, hcell⟩ := bool_at (Kd.R_reads' O13.out).2.2 hi
      injection eA with eA
      subst eA
      clear hi hi0 hi1
      cases hx : OL.getD i false <;> rw [hx] at hcell <;> clear hx
      · obtain ⟨ed, E_, e_, eB, y0, y1, l0_, g0_⟩ := at_T64 (Kd.R_reads' X13.out.R1).2.2 (0 : Int) (by decide) (show (0 : Int) < 2 by decide)
        subst eB
        rw [show ed.add ((0 : Int).toNat * 2) = ed by simp [Addr.add], show (rd_T64 (s1 l1 hb) (0 : Int)).f1 = (hb : Int) from rfl] at y1
        clear y0 l0_ g0_
        have tc0 : w13.cell? ⟨g7, 0, none⟩ = some (.int .i64 0) := (blk_cell X13.out.blk 0).trans rfl; have tf0 := blk_frozen X13.out.blk 0; have tc1 : w13.cell? ⟨g7, 1, none⟩ = some (.slice A' 2 c') := (blk_cell X13.out.blk 1).trans rfl; have tf1 := blk_frozen X13.out.blk 1; have tc2 : w13.cell? ⟨g7, 2, none⟩ = some (.int .i64 1) := (blk_cell X13.out.blk 2).trans rfl; have tf2 := blk_frozen X13.out.blk 2; have tc3 : w13.cell? ⟨g7, 3, none⟩ = some (.slice (some ed) 2 d') := (blk_cell X13.out.blk 3).trans rfl; have tf3 := blk_frozen X13.out.blk 3
        have Y1 := Aside0.mk y1
        have e64 : wrap64 (1 : Int) = 1 := by unfold wrap64; omega
        have e64b : wrap64 (0 : Int) = 0 := by unfold wrap64; omega
        clear y1 tc0 tf0 tc1 tf1 tc2 tf2 tc3 tf3
        go_wp2_with fail
        refine start_ (n := 17) (S := fun w' => w'.cell? ⟨g7, 0, none⟩ = some (.int .i64 0) ∧ w'.cell? ⟨g7, 1, none⟩ = some (.slice A' 2 c') ∧ w'.cell? ⟨g7, 2, none⟩ = some (.int .i64 1) ∧ w'.cell? ⟨g7, 3, none⟩ = some (.slice (some ed) 2 d') ∧ w'.cell? ⟨ed.block, ed.off + 1, none⟩ = some (.int .i64 (hb : Int))) (ds := [14]) #[false, false, false, false, false, false, false, false, false, false, false, false, false, false, false, false, false] (by kernel_rfl) rfl rfl ⟨(blk_cell (blk_drew X13.out.blk) 0).trans rfl, (blk_cell (blk_drew X13.out.blk) 1).trans rfl, (blk_cell (blk_drew X13.out.blk) 2).trans rfl, (blk_cell (blk_drew X13.out.blk) 3).trans rfl, cell_bel2 Y1.out (below_drew (Below.refl _ _))⟩ (fun hHeld => ?_)
        refine pure_ (i := 0) (N := some 82) (v := ?_) (a' := ?_) #[true, false, false, false, false, false, false, false, false, false, false, false, false, false, false, false, false] rfl rfl (by kernel_rfl) (fun _ _ _ h => h) (Or.inl ⟨by rfl, ?_⟩) ?_ ?_
        rotate_left
        · intro w'
          go_simp
          with_reducible rfl
        rotate_left
        · simp only [Act.put, List.setIfInBounds_toArray, List.set_cons_zero, List.set_cons_succ, i64_w, i32_w]
          rfl
        refine pure_ (i := 1) (N := some 83) (v := ?_) (a' := ?_) #[true, true, false, false, false, false, false, false, false, false, false, false, false, false, false, false, false] rfl rfl (by kernel_rfl) (fun _ _ _ h => h) (Or.inl ⟨by rfl, ?_⟩) ?_ ?_
        rotate_left
        · intro w'
          go_simp
          with_reducible rfl
        rotate_left
        · simp only [Act.put, List.setIfInBounds_toArray, List.set_cons_zero, List.set_cons_succ, i64_w, i32_w]
          rfl
        refine pure_ (i := 3) (N := some 85) (v := ?_) (a' := ?_) #[true, true, false, true, false, false, false, false, false, false, false, false, false, false, false, false, false] rfl rfl (by kernel_rfl) (fun _ _ _ h => h) (Or.inl ⟨by rfl, ?_⟩) ?_ ?_
        rotate_left
        · intro w'
          go_simp
          with_reducible rfl
        rotate_left
        · simp only [Act.put, List.setIfInBounds_toArray, List.set_cons_zero, List.set_cons_succ, i64_w, i32_w]
          rfl
        refine pure_ (i := 4) (N := some 86) (v := ?_) (a' := ?_) #[true, true, false, true, true, false, false, false, false, false, false, false, false, false, false, false, false] rfl rfl (by kernel_rfl) (fun _ _ _ h => h) (Or.inl ⟨by rfl, ?_⟩) ?_ ?_
        rotate_left
        · intro w'
          go_simp
          with_reducible rfl
        rotate_left
        · simp only [Act.put, List.setIfInBounds_toArray, List.set_cons_zero, List.set_cons_succ, i64_w, i32_w]
          rfl
        refine pure_ (i := 5) (N := some 87) (v := ?_) (a' := ?_) #[true, true, false, true, true, true, false, false, false, false, false, false, false, false, false, false, false] rfl rfl (by kernel_rfl) (fun _ _ _ h => h) (Or.inl ⟨by rfl, ?_⟩) ?_ ?_
        rotate_left
        · intro w'
          go_simp
          with_reducible rfl
        rotate_left
        · simp only [Act.put, List.setIfInBounds_toArray, List.set_cons_zero, List.set_cons_succ, i64_w, i32_w]
          rfl
        refine pure_ (i := 6) (N := some 88) (v := ?_) (a' := ?_) #[true, true, false, true, true, true, true, false, false, false, false, false, false, false, false, false, false] rfl rfl (by kernel_rfl) (fun _ _ _ h => h) (Or.inl ⟨by rfl, ?_⟩) ?_ ?_
        rotate_left
        · intro w'
          go_simp
          with_reducible rfl
        rotate_left
        · simp only [Act.put, List.setIfInBounds_toArray, List.set_cons_zero, List.set_cons_succ, i64_w, i32_w]
          rfl
        refine pure_ (i := 7) (N := some 89) (v := ?_) (a' := ?_) #[true, true, false, true, true, true, true, true, false, false, false, false, false, false, false, false, false] rfl rfl (by kernel_rfl) (fun _ _ _ h => h) (Or.inl ⟨by rfl, ?_⟩) ?_ ?_
        rotate_left
        · intro w'
          go_simp
          with_reducible rfl
        rotate_left
        · simp only [Act.put, List.setIfInBounds_toArray, List.set_cons_zero, List.set_cons_succ, i64_w, i32_w]
          rfl
        refine pure_ (i := 8) (N := some 90) (v := ?_) (a' := ?_) #[true, true, false, true, true, true, true, true, true, false, false, false, false, false, false, false, false] rfl rfl (by kernel_rfl) (fun _ _ _ h => h) (Or.inl ⟨by rfl, ?_⟩) ?_ ?_
        rotate_left
        · intro w'
          go_simp
          with_reducible rfl
        rotate_left
        · simp only [Act.put, List.setIfInBounds_toArray, List.set_cons_zero, List.set_cons_succ, i64_w, i32_w]
          rfl
        refine pure_ (i := 10) (N := some 92) (v := ?_) (a' := ?_) #[true, true, false, true, true, true, true, true, true, false, true, false, false, false, false, false, false] rfl rfl (by kernel_rfl) (fun _ _ _ h => h) (Or.inl ⟨by rfl, ?_⟩) ?_ ?_
        rotate_left
        · intro w'
          go_simp
          with_reducible rfl
        rotate_left
        · simp only [Act.put, List.setIfInBounds_toArray, List.set_cons_zero, List.set_cons_succ, i64_w, i32_w]
          rfl
        refine pure_ (i := 16) (N := some 98) (v := ?_) (a' := ?_) #[true, true, false, true, true, true, true, true, true, false, true, false, false, false, false, false, true] rfl rfl (by kernel_rfl) (fun _ _ _ h => h) (Or.inl ⟨by rfl, ?_⟩) ?_ ?_
        rotate_left
        · intro w'
          go_simp
          with_reducible rfl
        rotate_left
        · simp only [Act.put, List.setIfInBounds_toArray, List.set_cons_zero, List.set_cons_succ, i64_w, i32_w]
          rfl
        refine take_ (i := 2) (N := some 84) (v := ?_) (a' := ?_) #[true, true, true, true, true, true, true, true, true, false, true, false, false, false, false, false, true] rfl rfl (by kernel_rfl) (fun _ _ _ h => h) (Or.inl ⟨by rfl, ?_⟩) hHeld ?_ ?_
        rotate_left
        · rintro w' ⟨s0, s1, s2, s3, s4⟩
          go_simp
          with_reducible rfl
        rotate_left
        · simp only [Act.put, List.setIfInBounds_toArray, List.set_cons_zero, List.set_cons_succ, i64_w, i32_w]
          rfl
        refine take_ (i := 9) (N := some 91) (v := ?_) (a' := ?_) #[true, true, true, true, true, true, true, true, true, true, true, false, false, false, false, false, true] rfl rfl (by kernel_rfl) (fun _ _ _ h => h) (Or.inl ⟨by rfl, ?_⟩) hHeld ?_ ?_
        rotate_left
        · rintro w' ⟨s0, s1, s2, s3, s4⟩
          go_simp
          with_reducible rfl
        rotate_left
        · simp only [Act.put, List.setIfInBounds_toArray, List.set_cons_zero, List.set_cons_succ, i64_w, i32_w]
          rfl
        refine pure_ (i := 11) (N := some 93) (v := ?_) (a' := ?_) #[true, true, true, true, true, true, true, true, true, true, true, true, false, false, false, false, true] rfl rfl (by kernel_rfl) (fun _ _ _ h => h) (Or.inl ⟨by rfl, ?_⟩) ?_ ?_
        rotate_left
        · intro w'
          go_simp
          with_reducible rfl
        rotate_left
        · simp only [Act.put, List.setIfInBounds_toArray, List.set_cons_zero, List.set_cons_succ, i64_w, i32_w]
          rfl
        refine pure_ (i := 12) (N := some 94) (v := ?_) (a' := ?_) #[true, true, true, true, true, true, true, true, true, true, true, true, true, false, false, false, true] rfl rfl (by kernel_rfl) (fun _ _ _ h => h) (Or.inl ⟨by rfl, ?_⟩) ?_ ?_
        rotate_left
        · intro w'
          go_simp
          with_reducible rfl
        rotate_left
        · simp only [Act.put, List.setIfInBounds_toArray, List.set_cons_zero, List.set_cons_succ, i64_w, i32_w]
          rfl
        refine take_ (i := 13) (N := some 95) (v := ?_) (a' := ?_) #[true, true, true, true, true, true, true, true, true, true, true, true, true, true, false, false, true] rfl rfl (by kernel_rfl) (fun _ _ _ h => h) (Or.inl ⟨by rfl, ?_⟩) hHeld ?_ ?_
        rotate_left
        · rintro w' ⟨s0, s1, s2, s3, s4⟩
          go_simp
          with_reducible rfl
        rotate_left
        · simp only [Act.put, List.setIfInBounds_toArray, List.set_cons_zero, List.set_cons_succ, i64_w, i32_w]
          rfl
        refine last_ (i := 14) (N := some 96) #[true, true, true, true, true, true, true, true, true, true, true, true, true, true, true, false, true] rfl rfl (by kernel_rfl) (by decide) (fun K hK => ?_)
        refine goes_ Try.func21 (by kernel_rfl) rfl #[.agg #[.int .i64 0, .slice A' 2 c'], .int .i64 (wrap64 1), .int .i64 (hb : Int)] (by rfl) rfl rfl (by simp only [List.map_toArray, List.map_cons, List.map_nil]; rfl) ?_
        rw [show wrap64 (1 : Int) = ((1 : Nat) : Int) by unfold wrap64; omega]
        with_reducible refine (links_Packets (t := 1) (k := hb) (l := s0 l0 ha) (w := w13.drew) (s0_two _ _) (Kd.R_reads' X13.out.drew.R0).2.2 (Kd.R_reads' X13.out.drew.R0).2.1 (fit_s0'' H20.out HH.out) (s0_lt _ _) ne_10 (mx_nat _) (fit_T0 HF.out)).mono ?_
        rintro x w14 ⟨v14, rfl, hP, hbW⟩
        refine ⟨_, rfl, ?_⟩
        rw [s0_T] at hP
        obtain ⟨PL, hPL⟩ : ∃ PL, PL = packL 0 ((1 : Nat) : Int) ⟨l0, (ha : Int)⟩ hb := ⟨_, rfl⟩
        rw [← hPL] at hP
        obtain ⟨AP, cP, eP⟩ := Kd.R_slice hP
        subst eP
        have P14 := Aside0.mk (Kd.R_mono (ok' := fun k => k ≠ g7) (Kd.R_bound hP) (fun k hk e => by subst e; exact absurd (blk_lt X13.out.drew.blk) (Nat.not_lt.mpr hk.2.1)))
        have B14 := Aside0.mk (below_step (below_drew B13.out) hbW)
        have X14 := Aside0.mk (X13.out.drew.below hbW)
        have M14 := Aside0.mk (blk_below (blk_drew M13.out) hbW)
        have O14 := Aside0.mk (Kd.R_below (Kd.R_below O13.out (below_drew (Below.refl _ _))) hbW)
        have HPL := Aside0.mk hPL
        clear hbW hP hPL
        refine hK.out _ _ ?_
        clear hK K
        refine norm_ (a' := ?_) ?_ ?_
        rotate_left
        · show Act.put _ (some 96) _ = _
          simp only [Act.put, List.setIfInBounds_toArray, List.set_cons_zero, List.set_cons_succ, i64_w, i32_w]
          rfl
        refine pure_ (i := 15) (N := some 97) (v := ?_) (a' := ?_) #[true, true, true, true, true, true, true, true, true, true, true, true, true, true, true, true, true] rfl rfl (by kernel_rfl) (fun _ _ _ h => h) (Or.inl ⟨by rfl, ?_⟩) ?_ ?_
        rotate_left
        · intro w'
          go_simp
          with_reducible rfl
        rotate_left
        · simp only [Act.put, List.setIfInBounds_toArray, List.set_cons_zero, List.set_cons_succ, i64_w, i32_w]
          rfl
        refine done_ (by kernel_rfl) ?_
        go_wp2_with fail
        go_loopg [98] (PL.length + 1) (fun kq v98 w' => ∃ (j h : Nat) (A : Option Addr) (c : Nat) (B : Option Addr) (d : Nat), v98 = .int .i64 (j : Int) ∧ Aside0 (j ≤ PL.length ∧ j + kq = PL.length + 1) ∧ Aside0 (h = if hb < l0.length then hb + j else hb) ∧ Aside0 (Below w.heap.size w w') ∧ Aside0 (w'.heap[g8]? = some (.cells #[.slice A0 l0.length c0, .slice A1 l1.length c1] 69 (0, 0))) ∧ Aside0 (TB w.heap.size (fun k => k ≠ g7 ∧ k ≠ g8) w' g7 (s0 l0 ha) (s1 l1 h) A c B d) ∧ Aside0 (Kd.R Kd.bool 4 w' w.heap.size (fun k => k ≠ g7 ∧ k ≠ g8) (.slice (some ad) OL.length c12) OL) ∧ Aside0 (Kd.R k37 37 w' w13.drew.heap.size (fun k => k ≠ g7) (.slice AP PL.length cP) PL))
        case atStart => exact ⟨0, hb, A', c', (some ed), d', rfl, ⟨by omega, by omega⟩, ⟨by split <;> rfl⟩, B14, M14, X14, O14, P14⟩
        case round =>
          obtain ⟨j, h, A, c, B, d, rfl, HJ, Hh, B15, M15, X15, O15, P15⟩ := hrel
          clear B14 M14 X14 O14 P14
          generalize wr = w15 at B15 M15 X15 O15 P15 ⊢
          by_cases hj : j < PL.length
          rotate_left
          · have hend := pack_end (me := 0) (t := ((1 : Nat) : Int)) (s := (ha : Int)) (l := l0) (k := hb) (j := j) (h := h) (by have := HH.out; omega) (HPL.out ▸ HJ.out.1) (HPL.out ▸ hj) Hh.out
            have d1 : decide ((j : Int) < (PL.length : Int)) = false := decide_eq_false (by omega)
            have d2 : decide (j < PL.length) = false := decide_eq_false hj
            have d3 : (j < PL.length) = False := eq_false hj
            have HE := Aside0.mk hend
            have B16 := Aside0.mk B15.out; have X16 := Aside0.mk X15.out; have M16 := Aside0.mk M15.out; have O16 := Aside0.mk O15.out
            clear hj hend B15 X15 M15 O15 P15
            go_wp2_with fail
            clear d1 d2 d3
            obtain ⟨ed2, E2_, e2_, eB2, y0, y1, l0_, g0_⟩ := at_T64 (Kd.R_reads' X16.out.R1).2.2 (0 : Int) (by decide) (show (0 : Int) < 2 by decide)
            subst eB2
            rw [show ed2.add ((0 : Int).toNat * 2) = ed2 by simp [Addr.add], show (rd_T64 (s1 l1 h) (0 : Int)).f1 = (h : Int) from rfl, HE.out] at y1
            clear y0 l0_ g0_
            have Y2 := Aside0.mk y1
            clear y1
            refine start_ (n := 14) (S := fun w' => w'.cell? ⟨g7, 2, none⟩ = some (.int .i64 1) ∧ w'.cell? ⟨g7, 3, none⟩ = some (.slice (some ed2) 2 d) ∧ w'.cell? ⟨ed2.block, ed2.off + 1, none⟩ = some (.int .i64 (l0.length : Int)) ∧ w'.cell? ⟨g8, 0, none⟩ = some (.slice A0 l0.length c0)) (ds := [13]) #[false, false, false, false, false, false, false, false, false, false, false, false, false, false] (by kernel_rfl) rfl rfl ⟨(blk_cell (blk_drew X16.out.blk) 2).trans rfl, (blk_cell (blk_drew X16.out.blk) 3).trans rfl, cell_bel2 Y2.out (below_drew (Below.refl _ _)), (blk_cell (blk_drew M16.out) 0).trans rfl⟩ (fun hHeld => ?_)
            refine pure_ (i := 0) (N := some 139) (v := ?_) (a' := ?_) #[true, false, false, false, false, false, false, false, false, false, false, false, false, false] rfl rfl (by kernel_rfl) (fun _ _ _ h => h) (Or.inl ⟨by rfl, ?_⟩) ?_ ?_
            rotate_left
            · intro w'
              go_simp
              with_reducible rfl
            rotate_left
            · simp only [Act.put, List.setIfInBounds_toArray, List.set_cons_zero, List.set_cons_succ, i64_w, i32_w]
              rfl
            refine pure_ (i := 1) (N := some 140) (v := ?_) (a' := ?_) #[true, true, false, false, false, false, false, false, false, false, false, false, false, false] rfl rfl (by kernel_rfl) (fun _ _ _ h => h) (Or.inl ⟨by rfl, ?_⟩) ?_ ?_
            rotate_left
            · intro w'
              go_simp
              with_reducible rfl
            rotate_left
            · simp only [Act.put, List.setIfInBounds_toArray, List.set_cons_zero, List.set_cons_succ, i64_w, i32_w]
              rfl
            refine pure_ (i := 2) (N := some 141) (v := ?_) (a' := ?_) #[true, true, true, false, false, false, false, false, false, false, false, false, false, false] rfl rfl (by kernel_rfl) (fun _ _ _ h => h) (Or.inl ⟨by rfl, ?_⟩) ?_ ?_
            rotate_left
            · intro w'
              go_simp
              with_reducible rfl
            rotate_left
            · simp only [Act.put, List.setIfInBounds_toArray, List.set_cons_zero, List.set_cons_succ, i64_w, i32_w]
              rfl
            refine pure_ (i := 3) (N := some 142) (v := ?_) (a' := ?_) #[true, true, true, true, false, false, false, false, false, false, false, false, false, false] rfl rfl (by kernel_rfl) (fun _ _ _ h => h) (Or.inl ⟨by rfl, ?_⟩) ?_ ?_
            rotate_left
            · intro w'
              go_simp
              with_reducible rfl
            rotate_left
            · simp only [Act.put, List.setIfInBounds_toArray, List.set_cons_zero, List.set_cons_succ, i64_w, i32_w]
              rfl
            refine pure_ (i := 5) (N := some 144) (v := ?_) (a' := ?_) #[true, true, true, true, false, true, false, false, false, false, false, false, false, false] rfl rfl (by kernel_rfl) (fun _ _ _ h => h) (Or.inl ⟨by rfl, ?_⟩) ?_ ?_
            rotate_left
            · intro w'
              go_simp
              with_reducible rfl
            rotate_left
            · simp only [Act.put, List.setIfInBounds_toArray, List.set_cons_zero, List.set_cons_succ, i64_w, i32_w]
              rfl
            refine pure_ (i := 9) (N := some 148) (v := ?_) (a' := ?_) #[true, true, true, true, false, true, false, false, false, true, false, false, false, false] rfl rfl (by kernel_rfl) (fun _ _ _ h => h) (Or.inl ⟨by rfl, ?_⟩) ?_ ?_
            rotate_left
            · intro w'
              go_simp
              with_reducible rfl
            rotate_left
            · simp only [Act.put, List.setIfInBounds_toArray, List.set_cons_zero, List.set_cons_succ, i64_w, i32_w]
              rfl
            refine pure_ (i := 10) (N := some 149) (v := ?_) (a' := ?_) #[true, true, true, true, false, true, false, false, false, true, true, false, false, false] rfl rfl (by kernel_rfl) (fun _ _ _ h => h) (Or.inl ⟨by rfl, ?_⟩) ?_ ?_
            rotate_left
            · intro w'
              go_simp
              with_reducible rfl
            rotate_left
            · simp only [Act.put, List.setIfInBounds_toArray, List.set_cons_zero, List.set_cons_succ, i64_w, i32_w]
              rfl
            refine take_ (i := 4) (N := some 143) (v := ?_) (a' := ?_) #[true, true, true, true, true, true, false, false, false, true, true, false, false, false] rfl rfl (by kernel_rfl) (fun _ _ _ h => h) (Or.inl ⟨by rfl, ?_⟩) hHeld ?_ ?_
            rotate_left
            · rintro w' ⟨s0, s1, s2, s3⟩
              go_simp
              with_reducible rfl
            rotate_left
            · simp only [Act.put, List.setIfInBounds_toArray, List.set_cons_zero, List.set_cons_succ, i64_w, i32_w]
              rfl
            refine pure_ (i := 6) (N := some 145) (v := ?_) (a' := ?_) #[true, true, true, true, true, true, true, false, false, true, true, false, false, false] rfl rfl (by kernel_rfl) (fun _ _ _ h => h) (Or.inl ⟨by rfl, ?_⟩) ?_ ?_
            rotate_left
            · intro w'
              go_simp
              with_reducible rfl
            rotate_left
            · simp only [Act.put, List.setIfInBounds_toArray, List.set_cons_zero, List.set_cons_succ, i64_w, i32_w]
              rfl
            refine pure_ (i := 7) (N := some 146) (v := ?_) (a' := ?_) #[true, true, true, true, true, true, true, true, false, true, true, false, false, false] rfl rfl (by kernel_rfl) (fun _ _ _ h => h) (Or.inl ⟨by rfl, ?_⟩) ?_ ?_
            rotate_left
            · intro w'
              go_simp
              with_reducible rfl
            rotate_left
            · simp only [Act.put, List.setIfInBounds_toArray, List.set_cons_zero, List.set_cons_succ, i64_w, i32_w]
              rfl
            refine take_ (i := 8) (N := some 147) (v := ?_) (a' := ?_) #[true, true, true, true, true, true, true, true, true, true, true, false, false, false] rfl rfl (by kernel_rfl) (fun _ _ _ h => h) (Or.inl ⟨by rfl, ?_⟩) hHeld ?_ ?_
            rotate_left
            · rintro w' ⟨s0, s1, s2, s3⟩
              go_simp
              with_reducible rfl
            rotate_left
            · simp only [Act.put, List.setIfInBounds_toArray, List.set_cons_zero, List.set_cons_succ, i64_w, i32_w]
              rfl
            refine take_ (i := 11) (N := some 150) (v := ?_) (a' := ?_) #[true, true, true, true, true, true, true, true, true, true, true, true, false, false] rfl rfl (by kernel_rfl) (fun _ _ _ h => h) (Or.inl ⟨by rfl, ?_⟩) hHeld ?_ ?_
            rotate_left
            · rintro w' ⟨s0, s1, s2, s3⟩
              go_simp
              with_reducible rfl
            rotate_left
            · simp only [Act.put, List.setIfInBounds_toArray, List.set_cons_zero, List.set_cons_succ, i64_w, i32_w]
              rfl
            refine pure_ (i := 12) (N := some 151) (v := ?_) (a' := ?_) #[true, true, true, true, true, true, true, true, true, true, true, true, true, false] rfl rfl (by kernel_rfl) (fun _ _ _ h => h) (Or.inl ⟨by rfl, ?_⟩) ?_ ?_
            rotate_left
            · intro w'
              go_simp
              with_reducible rfl
            rotate_left
            · simp only [Act.put, List.setIfInBounds_toArray, List.set_cons_zero, List.set_cons_succ, i64_w, i32_w]
              rfl
            refine pure_ (i := 13) (N := some 152) (v := ?_) (a' := ?_) #[true, true, true, true, true, true, true, true, true, true, true, true, true, true] rfl rfl (by kernel_rfl) (fun _ _ _ h => h) (Or.inl ⟨by rfl, ?_⟩) ?_ ?_
            rotate_left
            · intro w'
              go_simp
              with_reducible rfl
            rotate_left
            · simp only [Act.put, List.setIfInBounds_toArray, List.set_cons_zero, List.set_cons_succ, i64_w, i32_w]
              rfl
            refine done_ (by kernel_rfl) ?_
            go_wp2_with fail
            go_roundg (OL.length - i)
            case measure => have := NK.out.2; have := HI.out; omega
            case rel => exact ⟨i + 1, ha, h, A, c, some ed2, d, by (first | rw [b1] | rfl), ⟨by have := NK.out; omega⟩, ⟨by have := HE.out; have := HH.out; omega⟩, ⟨below_drew B16.out⟩, ⟨blk_drew M16.out⟩, ⟨X16.out.drew⟩, ⟨Kd.R_below O16.out (below_drew (Below.refl _ _))⟩⟩
          have d1 : decide ((j : Int) < (PL.length : Int)) = true := decide_eq_true (by omega)
          have d2 : decide (j < PL.length) = true := decide_eq_true hj
          have d3 : (j < PL.length) = True := eq_true hj
          have j0 : (0 : Int) ≤ (j : Int) := by omega
          have j1 : (j : Int) < (PL.length : Int) := by omega
          have NJ := Aside0.mk (nkC hj HJ.out)
          have b2 : wrap64 ((j : Int) + 1) = ((j + 1 : Nat) : Int) := pl_wrap hj HPL.out H20.out.1
          obtain ⟨num, m, hel, hcase⟩ := packB_get (show j < (packL 0 ((1 : Nat) : Int) ⟨l0, (ha : Int)⟩ hb).length from HPL.out ▸ hj)
          rw [← HPL.out] at hel
          obtain ⟨A_, c_, e_2, -, hrd⟩ := OwnRow.reads (Kd.R_bound P15.out).2
          injection e_2 with e_2 e2_ e3_
          subst e_2
          clear e2_ e3_
          obtain ⟨pd, cc, ea, -, hK, hcell⟩ := ReadsRow.get_ hrd z37 (j : Int) j0 j1
          subst ea
          rw [Int.toNat_natCast, hel] at hK
          rw [Int.toNat_natCast] at hcell
          obtain ⟨v13, v14, ec, g13, g14⟩ := k37_openM hK
          dsimp only at ec g13 g14
          subst ec
          obtain ⟨A13, c13, e13⟩ := Kd.R_slice g13
          obtain ⟨A14, c14, e14⟩ := Kd.R_slice g14
          subst e13
          subst e14
          have x0 : w15.cell? (pd.add (j * 15)) = some (.int .i64 0) := hcell 0 _ rfl; have x1 : w15.cell? ⟨(pd.add (j * 15)).block, (pd.add (j * 15)).off + 1, none⟩ = some (.int .i64 1) := (by rw [← add_field _ _ 1 (by omega)]; exact hcell 1 _ rfl); have x2 : w15.cell? ⟨(pd.add (j * 15)).block, (pd.add (j * 15)).off + 2, none⟩ = some (.int .i64 num) := (by rw [← add_field _ _ 2 (by omega)]; exact hcell 2 _ rfl); have x3 : w15.cell? ⟨(pd.add (j * 15)).block, (pd.add (j * 15)).off + 3, none⟩ = some (.int .i64 (ha : Int)) := (by rw [← add_field _ _ 3 (by omega)]; exact hcell 3 _ rfl); have x4 : w15.cell? ⟨(pd.add (j * 15)).block, (pd.add (j * 15)).off + 4, none⟩ = some (.int .i64 m.f0) := (by rw [← add_field _ _ 4 (by omega)]; exact hcell 4 _ rfl); have x5 : w15.cell? ⟨(pd.add (j * 15)).block, (pd.add (j * 15)).off + 5, none⟩ = some (.int .i64 m.f1.f0) := (by rw [← add_field _ _ 5 (by omega)]; exact hcell 5 _ rfl); have x6 : w15.cell? ⟨(pd.add (j * 15)).block, (pd.add (j * 15)).off + 6, none⟩ = some (.int .i64 m.f1.f1) := (by rw [← add_field _ _ 6 (by omega)]; exact hcell 6 _ rfl); have x7 : w15.cell? ⟨(pd.add (j * 15)).block, (pd.add (j * 15)).off + 7, none⟩ = some (.int .i64 m.f2) := (by rw [← add_field _ _ 7 (by omega)]; exact hcell 7 _ rfl); have x8 : w15.cell? ⟨(pd.add (j * 15)).block, (pd.add (j * 15)).off + 8, none⟩ = some (.int .i64 m.f3) := (by rw [← add_field _ _ 8 (by omega)]; exact hcell 8 _ rfl); have x9 : w15.cell? ⟨(pd.add (j * 15)).block, (pd.add (j * 15)).off + 9, none⟩ = some (.int .i64 m.f4) := (by rw [← add_field _ _ 9 (by omega)]; exact hcell 9 _ rfl); have x10 : w15.cell? ⟨(pd.add (j * 15)).block, (pd.add (j * 15)).off + 10, none⟩ = some (.int .i64 m.f5) := (by rw [← add_field _ _ 10 (by omega)]; exact hcell 10 _ rfl); have x11 : w15.cell? ⟨(pd.add (j * 15)).block, (pd.add (j * 15)).off + 11, none⟩ = some (.int .i64 m.f6) := (by rw [← add_field _ _ 11 (by omega)]; exact hcell 11 _ rfl); have x12 : w15.cell? ⟨(pd.add (j * 15)).block, (pd.add (j * 15)).off + 12, none⟩ = some (.bool m.f7) := (by rw [← add_field _ _ 12 (by omega)]; exact hcell 12 _ rfl); have x13 : w15.cell? ⟨(pd.add (j * 15)).block, (pd.add (j * 15)).off + 13, none⟩ = some (.slice A13 m.f8.length c13) := (by rw [← add_field _ _ 13 (by omega)]; exact hcell 13 _ rfl); have x14 : w15.cell? ⟨(pd.add (j * 15)).block, (pd.add (j * 15)).off + 14, none⟩ = some (.slice A14 m.f9.length c14) := (by rw [← add_field _ _ 14 (by omega)]; exact hcell 14 _ rfl)
          have U15 := Aside0.mk (Kd.R_mono (ok' := fun k => k ≠ g7) (Kd.R_bound g13) (fun k hk => hk.1.1.1)); have V15 := Aside0.mk (Kd.R_mono (ok' := fun k => k ≠ g7) (Kd.R_bound g14) (fun k hk => hk.1.1.1))
          have q4 := eq_true j0; have q5 := eq_true j1; have q6 : decide ((0 : Int) ≤ (j : Int)) = true := decide_eq_true j0
          have HC := Aside0.mk hcase
          clear hj hel hrd hK hcell g13 g14 j0 j1 hcase
          go_upto_region 27 with (first | ((with_reducible refine gate_dst (N := 16) rfl ?_); refine box_event ?hg (N := 16) ?hd (cs := #[.int .i64 0, .int .i64 0, .int .i64 0, .int .i64 0, .int .i64 0, .int .i64 0, .int .i64 0, .int .i64 0, .int .i64 0, .int .i64 0, .int .i64 0, .int .i64 0, .bool false, .slice none 0 0, .slice none 0 0]) (t := 37) ?hr ?_; (case hd => rfl); (case hg => rfl); (case hr => first | (go_simp; done) | (go_simp; rfl)); intro g16 hg w16m hbox hb; have ZB := Aside0.mk hb; have ZX := Aside0.mk hbox; have N16g := Aside0.mk (show w15.heap.size ≤ g16 from by rw [hg]; exact Nat.le_refl _); have m_zc0 : w16m.cell? ⟨g16, 0, none⟩ = some (.int .i64 0) := (blk_cell ZX.out 0).trans rfl; have m_zf0 := blk_frozen ZX.out 0; have m_zc1 : w16m.cell? ⟨g16, 1, none⟩ = some (.int .i64 0) := (blk_cell ZX.out 1).trans rfl; have m_zf1 := blk_frozen ZX.out 1; have m_zc2 : w16m.cell? ⟨g16, 2, none⟩ = some (.int .i64 0) := (blk_cell ZX.out 2).trans rfl; have m_zf2 := blk_frozen ZX.out 2; have m_zc3 : w16m.cell? ⟨g16, 3, none⟩ = some (.int .i64 0) := (blk_cell ZX.out 3).trans rfl; have m_zf3 := blk_frozen ZX.out 3; have m_zc4 : w16m.cell? ⟨g16, 4, none⟩ = some (.int .i64 0) := (blk_cell ZX.out 4).trans rfl; have m_zf4 := blk_frozen ZX.out 4; have m_zc5 : w16m.cell? ⟨g16, 5, none⟩ = some (.int .i64 0) := (blk_cell ZX.out 5).trans rfl; have m_zf5 := blk_frozen ZX.out 5; have m_zc6 : w16m.cell? ⟨g16, 6, none⟩ = some (.int .i64 0) := (blk_cell ZX.out 6).trans rfl; have m_zf6 := blk_frozen ZX.out 6; have m_zc7 : w16m.cell? ⟨g16, 7, none⟩ = some (.int .i64 0) := (blk_cell ZX.out 7).trans rfl; have m_zf7 := blk_frozen ZX.out 7; have m_zc8 : w16m.cell? ⟨g16, 8, none⟩ = some (.int .i64 0) := (blk_cell ZX.out 8).trans rfl; have m_zf8 := blk_frozen ZX.out 8; have m_zc9 : w16m.cell? ⟨g16, 9, none⟩ = some (.int .i64 0) := (blk_cell ZX.out 9).trans rfl; have m_zf9 := blk_frozen ZX.out 9; have m_zc10 : w16m.cell? ⟨g16, 10, none⟩ = some (.int .i64 0) := (blk_cell ZX.out 10).trans rfl; have m_zf10 := blk_frozen ZX.out 10; have m_zc11 : w16m.cell? ⟨g16, 11, none⟩ = some (.int .i64 0) := (blk_cell ZX.out 11).trans rfl; have m_zf11 := blk_frozen ZX.out 11; have m_zc12 : w16m.cell? ⟨g16, 12, none⟩ = some (.bool false) := (blk_cell ZX.out 12).trans rfl; have m_zf12 := blk_frozen ZX.out 12; have m_zc13 : w16m.cell? ⟨g16, 13, none⟩ = some (.slice none 0 0) := (blk_cell ZX.out 13).trans rfl; have m_zf13 := blk_frozen ZX.out 13; have m_zc14 : w16m.cell? ⟨g16, 14, none⟩ = some (.slice none 0 0) := (blk_cell ZX.out 14).trans rfl; have m_zf14 := blk_frozen ZX.out 14; clear hb hg hbox))
          have NB16 := Aside0.mk (below_setB (below_setB (below_setB (below_setB (below_setB (below_setB (below_setB (below_setB (below_setB (below_setB (below_setB (below_setB (below_setB (below_setB (below_setB ZB.out (p := ⟨g16, 0, none⟩) N16g.out (.int .i64 0)) (p := ⟨g16, 1, none⟩) N16g.out (.int .i64 1)) (p := ⟨g16, 2, none⟩) N16g.out (.int .i64 num)) (p := ⟨g16, 3, none⟩) N16g.out (.int .i64 (ha : Int))) (p := ⟨g16, 4, none⟩) N16g.out (.int .i64 m.f0)) (p := ⟨g16, 5, none⟩) N16g.out (.int .i64 m.f1.f0)) (p := ⟨g16, 6, none⟩) N16g.out (.int .i64 m.f1.f1)) (p := ⟨g16, 7, none⟩) N16g.out (.int .i64 m.f2)) (p := ⟨g16, 8, none⟩) N16g.out (.int .i64 m.f3)) (p := ⟨g16, 9, none⟩) N16g.out (.int .i64 m.f4)) (p := ⟨g16, 10, none⟩) N16g.out (.int .i64 m.f5)) (p := ⟨g16, 11, none⟩) N16g.out (.int .i64 m.f6)) (p := ⟨g16, 12, none⟩) N16g.out (.bool m.f7)) (p := ⟨g16, 13, none⟩) N16g.out (.slice A13 m.f8.length c13)) (p := ⟨g16, 14, none⟩) N16g.out (.slice A14 m.f9.length c14)); have N16 := Aside0.mk (blk_put (blk_put (blk_put (blk_put (blk_put (blk_put (blk_put (blk_put (blk_put (blk_put (blk_put (blk_put (blk_put (blk_put (blk_put ZX.out 0 (.int .i64 0) (cs' := #[.int .i64 0, .int .i64 0, .int .i64 0, .int .i64 0, .int .i64 0, .int .i64 0, .int .i64 0, .int .i64 0, .int .i64 0, .int .i64 0, .int .i64 0, .int .i64 0, .bool false, .slice none 0 0, .slice none 0 0]) rfl) 1 (.int .i64 1) (cs' := #[.int .i64 0, .int .i64 1, .int .i64 0, .int .i64 0, .int .i64 0, .int .i64 0, .int .i64 0, .int .i64 0, .int .i64 0, .int .i64 0, .int .i64 0, .int .i64 0, .bool false, .slice none 0 0, .slice none 0 0]) rfl) 2 (.int .i64 num) (cs' := #[.int .i64 0, .int .i64 1, .int .i64 num, .int .i64 0, .int .i64 0, .int .i64 0, .int .i64 0, .int .i64 0, .int .i64 0, .int .i64 0, .int .i64 0, .int .i64 0, .bool false, .slice none 0 0, .slice none 0 0]) rfl) 3 (.int .i64 (ha : Int)) (cs' := #[.int .i64 0, .int .i64 1, .int .i64 num, .int .i64 (ha : Int), .int .i64 0, .int .i64 0, .int .i64 0, .int .i64 0, .int .i64 0, .int .i64 0, .int .i64 0, .int .i64 0, .bool false, .slice none 0 0, .slice none 0 0]) rfl) 4 (.int .i64 m.f0) (cs' := #[.int .i64 0, .int .i64 1, .int .i64 num, .int .i64 (ha : Int), .int .i64 m.f0, .int .i64 0, .int .i64 0, .int .i64 0, .int .i64 0, .int .i64 0, .int .i64 0, .int .i64 0, .bool false, .slice none 0 0, .slice none 0 0]) rfl) 5 (.int .i64 m.f1.f0) (cs' := #[.int .i64 0, .int .i64 1, .int .i64 num, .int .i64 (ha : Int), .int .i64 m.f0, .int .i64 m.f1.f0, .int .i64 0, .int .i64 0, .int .i64 0, .int .i64 0, .int .i64 0, .int .i64 0, .bool false, .slice none 0 0, .slice none 0 0]) rfl) 6 (.int .i64 m.f1.f1) (cs' := #[.int .i64 0, .int .i64 1, .int .i64 num, .int .i64 (ha : Int), .int .i64 m.f0, .int .i64 m.f1.f0, .int .i64 m.f1.f1, .int .i64 0, .int .i64 0, .int .i64 0, .int .i64 0, .int .i64 0, .bool false, .slice none 0 0, .slice none 0 0]) rfl) 7 (.int .i64 m.f2) (cs' := #[.int .i64 0, .int .i64 1, .int .i64 num, .int .i64 (ha : Int), .int .i64 m.f0, .int .i64 m.f1.f0, .int .i64 m.f1.f1, .int .i64 m.f2, .int .i64 0, .int .i64 0, .int .i64 0, .int .i64 0, .bool false, .slice none 0 0, .slice none 0 0]) rfl) 8 (.int .i64 m.f3) (cs' := #[.int .i64 0, .int .i64 1, .int .i64 num, .int .i64 (ha : Int), .int .i64 m.f0, .int .i64 m.f1.f0, .int .i64 m.f1.f1, .int .i64 m.f2, .int .i64 m.f3, .int .i64 0, .int .i64 0, .int .i64 0, .bool false, .slice none 0 0, .slice none 0 0]) rfl) 9 (.int .i64 m.f4) (cs' := #[.int .i64 0, .int .i64 1, .int .i64 num, .int .i64 (ha : Int), .int .i64 m.f0, .int .i64 m.f1.f0, .int .i64 m.f1.f1, .int .i64 m.f2, .int .i64 m.f3, .int .i64 m.f4, .int .i64 0, .int .i64 0, .bool false, .slice none 0 0, .slice none 0 0]) rfl) 10 (.int .i64 m.f5) (cs' := #[.int .i64 0, .int .i64 1, .int .i64 num, .int .i64 (ha : Int), .int .i64 m.f0, .int .i64 m.f1.f0, .int .i64 m.f1.f1, .int .i64 m.f2, .int .i64 m.f3, .int .i64 m.f4, .int .i64 m.f5, .int .i64 0, .bool false, .slice none 0 0, .slice none 0 0]) rfl) 11 (.int .i64 m.f6) (cs' := #[.int .i64 0, .int .i64 1, .int .i64 num, .int .i64 (ha : Int), .int .i64 m.f0, .int .i64 m.f1.f0, .int .i64 m.f1.f1, .int .i64 m.f2, .int .i64 m.f3, .int .i64 m.f4, .int .i64 m.f5, .int .i64 m.f6, .bool false, .slice none 0 0, .slice none 0 0]) rfl) 12 (.bool m.f7) (cs' := #[.int .i64 0, .int .i64 1, .int .i64 num, .int .i64 (ha : Int), .int .i64 m.f0, .int .i64 m.f1.f0, .int .i64 m.f1.f1, .int .i64 m.f2, .int .i64 m.f3, .int .i64 m.f4, .int .i64 m.f5, .int .i64 m.f6, .bool m.f7, .slice none 0 0, .slice none 0 0]) rfl) 13 (.slice A13 m.f8.length c13) (cs' := #[.int .i64 0, .int .i64 1, .int .i64 num, .int .i64 (ha : Int), .int .i64 m.f0, .int .i64 m.f1.f0, .int .i64 m.f1.f1, .int .i64 m.f2, .int .i64 m.f3, .int .i64 m.f4, .int .i64 m.f5, .int .i64 m.f6, .bool m.f7, .slice A13 m.f8.length c13, .slice none 0 0]) rfl) 14 (.slice A14 m.f9.length c14) (cs' := #[.int .i64 0, .int .i64 1, .int .i64 num, .int .i64 (ha : Int), .int .i64 m.f0, .int .i64 m.f1.f0, .int .i64 m.f1.f1, .int .i64 m.f2, .int .i64 m.f3, .int .i64 m.f4, .int .i64 m.f5, .int .i64 m.f6, .bool m.f7, .slice A13 m.f8.length c13, .slice A14 m.f9.length c14]) rfl); clear ZB ZX m_zc0 m_zf0 m_zc1 m_zf1 m_zc2 m_zf2 m_zc3 m_zf3 m_zc4 m_zf4 m_zc5 m_zf5 m_zc6 m_zf6 m_zc7 m_zf7 m_zc8 m_zf8 m_zc9 m_zf9 m_zc10 m_zf10 m_zc11 m_zf11 m_zc12 m_zf12 m_zc13 m_zf13 m_zc14 m_zf14; generalize (((((((((((((((w16m.setCell ⟨g16, 0, none⟩ (.int .i64 0)).setCell ⟨g16, 1, none⟩ (.int .i64 1)).setCell ⟨g16, 2, none⟩ (.int .i64 num)).setCell ⟨g16, 3, none⟩ (.int .i64 (ha : Int))).setCell ⟨g16, 4, none⟩ (.int .i64 m.f0)).setCell ⟨g16, 5, none⟩ (.int .i64 m.f1.f0)).setCell ⟨g16, 6, none⟩ (.int .i64 m.f1.f1)).setCell ⟨g16, 7, none⟩ (.int .i64 m.f2)).setCell ⟨g16, 8, none⟩ (.int .i64 m.f3)).setCell ⟨g16, 9, none⟩ (.int .i64 m.f4)).setCell ⟨g16, 10, none⟩ (.int .i64 m.f5)).setCell ⟨g16, 11, none⟩ (.int .i64 m.f6)).setCell ⟨g16, 12, none⟩ (.bool m.f7)).setCell ⟨g16, 13, none⟩ (.slice A13 m.f8.length c13)).setCell ⟨g16, 14, none⟩ (.slice A14 m.f9.length c14)) = w16 at NB16 N16 ⊢; have B16 := Aside0.mk (below_step B15.out NB16.out); have X16 := Aside0.mk (X15.out.below NB16.out); have M16 := Aside0.mk (blk_below M15.out NB16.out); have O16 := Aside0.mk (Kd.R_below O15.out NB16.out); have P16 := Aside0.mk (Kd.R_below P15.out NB16.out); have U16 := Aside0.mk (Kd.R_below U15.out NB16.out); have V16 := Aside0.mk (Kd.R_below V15.out NB16.out); have G16 := Aside0.mk (show g7 < g16 from Nat.lt_of_lt_of_le (blk_lt X15.out.blk) N16g.out)
          clear x0 x1 x2 x3 x4 x5 x6 x7 x8 x9 x10 x11 x12 x13 x14 P15 B15 M15 X15 O15 U15 V15 NB16
          have hcase := HC.out
          clear HC
          rcases hcase with ⟨hn, hlow⟩ | ⟨hn, hhi, hlt, hm⟩
          · have NX := Aside0.mk (show num < 1 by omega); have HLOW := Aside0.mk hlow; clear hn hlow
            refine start_ (n := 13) (S := fun w' => w'.cell? ⟨g7, 2, none⟩ = some (.int .i64 1) ∧ w'.cell? ⟨g7, 3, none⟩ = some (.slice B 2 d) ∧ w'.cell? ⟨g16, 2, none⟩ = some (.int .i64 num)) (ds := [7, 11, 12]) #[false, false, false, false, false, false, false, false, false, false, false, false, false] (by kernel_rfl) rfl rfl ⟨(blk_cell (blk_drew X16.out.blk) 2).trans rfl, (blk_cell (blk_drew X16.out.blk) 3).trans rfl, (blk_cell (blk_drew N16.out) 2).trans rfl⟩ (fun hHeld => ?_)
            refine pure_ (i := 0) (N := some 103) (v := ?_) (a' := ?_) #[true, false, false, false, false, false, false, false, false, false, false, false, false] rfl rfl (by kernel_rfl) (fun _ _ _ h => h) (Or.inl ⟨by rfl, ?_⟩) ?_ ?_
            rotate_left
            · intro w'
              go_simp
              with_reducible rfl
            rotate_left
            · simp only [Act.put, List.setIfInBounds_toArray, List.set_cons_zero, List.set_cons_succ, i64_w, i32_w]
              rfl
            refine pure_ (i := 1) (N := some 104) (v := ?_) (a' := ?_) #[true, true, false, false, false, false, false, false, false, false, false, false, false] rfl rfl (by kernel_rfl) (fun _ _ _ h => h) (Or.inl ⟨by rfl, ?_⟩) ?_ ?_
            rotate_left
            · intro w'
              go_simp
              with_reducible rfl
            rotate_left
            · simp only [Act.put, List.setIfInBounds_toArray, List.set_cons_zero, List.set_cons_succ, i64_w, i32_w]
              rfl
            refine pure_ (i := 2) (N := some 105) (v := ?_) (a' := ?_) #[true, true, true, false, false, false, false, false, false, false, false, false, false] rfl rfl (by kernel_rfl) (fun _ _ _ h => h) (Or.inl ⟨by rfl, ?_⟩) ?_ ?_
            rotate_left
            · intro w'
              go_simp
              with_reducible rfl
            rotate_left
            · simp only [Act.put, List.setIfInBounds_toArray, List.set_cons_zero, List.set_cons_succ, i64_w, i32_w]
              rfl
            refine pure_ (i := 4) (N := some 107) (v := ?_) (a' := ?_) #[true, true, true, false, true, false, false, false, false, false, false, false, false] rfl rfl (by kernel_rfl) (fun _ _ _ h => h) (Or.inl ⟨by rfl, ?_⟩) ?_ ?_
            rotate_left
            · intro w'
              go_simp
              with_reducible rfl
            rotate_left
            · simp only [Act.put, List.setIfInBounds_toArray, List.set_cons_zero, List.set_cons_succ, i64_w, i32_w]
              rfl
            refine pure_ (i := 5) (N := some 108) (v := ?_) (a' := ?_) #[true, true, true, false, true, true, false, false, false, false, false, false, false] rfl rfl (by kernel_rfl) (fun _ _ _ h => h) (Or.inl ⟨by rfl, ?_⟩) ?_ ?_
            rotate_left
            · intro w'
              go_simp
              with_reducible rfl
            rotate_left
            · simp only [Act.put, List.setIfInBounds_toArray, List.set_cons_zero, List.set_cons_succ, i64_w, i32_w]
              rfl
            refine take_ (i := 3) (N := some 106) (v := ?_) (a' := ?_) #[true, true, true, true, true, true, false, false, false, false, false, false, false] rfl rfl (by kernel_rfl) (fun _ _ _ h => h) (Or.inl ⟨by rfl, ?_⟩) hHeld ?_ ?_
            rotate_left
            · rintro w' ⟨s0, s1, s2⟩
              go_simp
              with_reducible rfl
            rotate_left
            · simp only [Act.put, List.setIfInBounds_toArray, List.set_cons_zero, List.set_cons_succ, i64_w, i32_w]
              rfl
            refine take_ (i := 6) (N := some 109) (v := ?_) (a' := ?_) #[true, true, true, true, true, true, true, false, false, false, false, false, false] rfl rfl (by kernel_rfl) (fun _ _ _ h => h) (Or.inl ⟨by rfl, ?_⟩) hHeld ?_ ?_
            rotate_left
            · rintro w' ⟨s0, s1, s2⟩
              go_simp
              with_reducible rfl
            rotate_left
            · simp only [Act.put, List.setIfInBounds_toArray, List.set_cons_zero, List.set_cons_succ, i64_w, i32_w]
              rfl
            refine last_ (i := 7) (N := some 110) #[true, true, true, true, true, true, true, true, false, false, false, false, false] rfl rfl (by kernel_rfl) (by decide) (fun K hK => ?_)
            refine goes_ Try.func22 (by kernel_rfl) rfl #[.agg #[.int .i64 1, .slice B 2 d], .int .i64 0, .int .i64 num] (by rfl) rfl rfl (by simp only [List.map_toArray, List.map_cons, List.map_nil]; rfl) ?_
            have CON := links_Next_low (t := 0) (num := num) (l := s1 l1 h) (w := w16.drew) (s1_two _ _) (Kd.R_reads' X16.out.drew.R1).2.2 (Kd.R_reads' X16.out.drew.R1).2.1 (s1_lt _ _) ne_01 NX.out; have CON2 : Calls Try.prog 22 #[.agg #[.int .i64 1, .slice B 2 d], .int .i64 0, .int .i64 num] w16.drew _ := CON; clear CON
            with_reducible refine (CON2).mono ?_
            rintro x w17 ⟨rfl, hbW⟩
            refine ⟨_, rfl, ?_⟩
            clear CON2
            have B17 := Aside0.mk (below_step (below_drew B16.out) hbW)
            have X17 := Aside0.mk (X16.out.drew.below hbW)
            have M17 := Aside0.mk (blk_below (blk_drew M16.out) hbW)
            have O17 := Aside0.mk (Kd.R_below (Kd.R_below O16.out (below_drew (Below.refl _ _))) hbW)
            have P17 := Aside0.mk (Kd.R_below (Kd.R_below P16.out (below_drew (Below.refl _ _))) hbW)
            clear hbW
            refine hK.out _ _ ?_
            clear hK K
            refine norm_ (a' := ?_) ?_ ?_
            rotate_left
            · show Act.put _ (some 110) _ = _
              simp only [Act.put, List.setIfInBounds_toArray, List.set_cons_zero, List.set_cons_succ, i64_w, i32_w]
              rfl
            refine pure_ (i := 8) (N := some 102) (v := ?_) (a' := ?_) #[true, true, true, true, true, true, true, true, true, false, false, false, false] rfl rfl (by kernel_rfl) (fun _ _ _ h => h) (Or.inl ⟨by rfl, ?_⟩) ?_ ?_
            rotate_left
            · intro w'
              go_simp
              with_reducible rfl
            rotate_left
            · simp only [Act.put, List.setIfInBounds_toArray, List.set_cons_zero, List.set_cons_succ, i64_w, i32_w]
              rfl
            refine pure_ (i := 9) (N := some 111) (v := ?_) (a' := ?_) #[true, true, true, true, true, true, true, true, true, true, false, false, false] rfl rfl (by kernel_rfl) (fun _ _ _ h => h) (Or.inl ⟨by rfl, ?_⟩) ?_ ?_
            rotate_left
            · intro w'
              go_simp
              with_reducible rfl
            rotate_left
            · simp only [Act.put, List.setIfInBounds_toArray, List.set_cons_zero, List.set_cons_succ, i64_w, i32_w]
              rfl
            refine pure_ (i := 10) (N := some 112) (v := ?_) (a' := ?_) #[true, true, true, true, true, true, true, true, true, true, true, false, false] rfl rfl (by kernel_rfl) (fun _ _ _ h => h) (Or.inl ⟨by rfl, ?_⟩) ?_ ?_
            rotate_left
            · intro w'
              go_simp
              with_reducible rfl
            rotate_left
            · simp only [Act.put, List.setIfInBounds_toArray, List.set_cons_zero, List.set_cons_succ, i64_w, i32_w]
              rfl
            refine pure_ (i := 11) (N := some 17) (v := ?_) (a' := ?_) #[true, true, true, true, true, true, true, true, true, true, true, true, false] rfl rfl (by kernel_rfl) (fun _ _ _ h => h) (Or.inl ⟨by rfl, ?_⟩) ?_ ?_
            rotate_left
            · intro w'
              go_simp
              with_reducible rfl
            rotate_left
            · simp only [Act.put, List.setIfInBounds_toArray, List.set_cons_zero, List.set_cons_succ, i64_w, i32_w]
              rfl
            refine pure_ (i := 12) (N := some 18) (v := ?_) (a' := ?_) #[true, true, true, true, true, true, true, true, true, true, true, true, true] rfl rfl (by kernel_rfl) (fun _ _ _ h => h) (Or.inl ⟨by rfl, ?_⟩) ?_ ?_
            rotate_left
            · intro w'
              go_simp
              with_reducible rfl
            rotate_left
            · simp only [Act.put, List.setIfInBounds_toArray, List.set_cons_zero, List.set_cons_succ, i64_w, i32_w]
              rfl
            refine done_ (by kernel_rfl) ?_
            go_wp2_with fail
            go_roundg (gk - 1)
            case measure => have := NJ.out.2; omega
            case rel => exact ⟨j + 1, h, A, c, B, d, by (first | rw [b2] | rfl), ⟨NJ.out.1⟩, ⟨by have := Hh.out; rw [if_neg HLOW.out] at this ⊢; exact this⟩, B17, M17, X17, O17, P17⟩
          have hh : h = hb + j := by have := Hh.out; rw [if_pos hhi] at this; exact this
          rw [← hh] at hn hlt hm
          have HM := Aside0.mk hm; have HLT := Aside0.mk hlt; have HN := Aside0.mk hn; have HHI := Aside0.mk hhi; have HHJ := Aside0.mk hh
          have NX1 := Aside0.mk (show 1 ≤ num from by rw [hn]; exact num_lo h); have NX2 := Aside0.mk (show num ≤ 9223372036854775807 from by rw [hn]; exact num_hi H20.out.1 hlt)
          clear hh hn hlt hm hhi
          refine start_ (n := 13) (S := fun w' => w'.cell? ⟨g7, 2, none⟩ = some (.int .i64 1) ∧ w'.cell? ⟨g7, 3, none⟩ = some (.slice B 2 d) ∧ w'.cell? ⟨g16, 2, none⟩ = some (.int .i64 num)) (ds := [7, 11, 12]) #[false, false, false, false, false, false, false, false, false, false, false, false, false] (by kernel_rfl) rfl rfl ⟨(blk_cell (blk_drew X16.out.blk) 2).trans rfl, (blk_cell (blk_drew X16.out.blk) 3).trans rfl, (blk_cell (blk_drew N16.out) 2).trans rfl⟩ (fun hHeld => ?_)
          refine pure_ (i := 0) (N := some 103) (v := ?_) (a' := ?_) #[true, false, false, false, false, false, false, false, false, false, false, false, false] rfl rfl (by kernel_rfl) (fun _ _ _ h => h) (Or.inl ⟨by rfl, ?_⟩) ?_ ?_
          rotate_left
          · intro w'
            go_simp
            with_reducible rfl
          rotate_left
          · simp only [Act.put, List.setIfInBounds_toArray, List.set_cons_zero, List.set_cons_succ, i64_w, i32_w]
            rfl
          refine pure_ (i := 1) (N := some 104) (v := ?_) (a' := ?_) #[true, true, false, false, false, false, false, false, false, false, false, false, false] rfl rfl (by kernel_rfl) (fun _ _ _ h => h) (Or.inl ⟨by rfl, ?_⟩) ?_ ?_
          rotate_left
          · intro w'
            go_simp
            with_reducible rfl
          rotate_left
          · simp only [Act.put, List.setIfInBounds_toArray, List.set_cons_zero, List.set_cons_succ, i64_w, i32_w]
            rfl
          refine pure_ (i := 2) (N := some 105) (v := ?_) (a' := ?_) #[true, true, true, false, false, false, false, false, false, false, false, false, false] rfl rfl (by kernel_rfl) (fun _ _ _ h => h) (Or.inl ⟨by rfl, ?_⟩) ?_ ?_
          rotate_left
          · intro w'
            go_simp
            with_reducible rfl
          rotate_left
          · simp only [Act.put, List.setIfInBounds_toArray, List.set_cons_zero, List.set_cons_succ, i64_w, i32_w]
            rfl
          refine pure_ (i := 4) (N := some 107) (v := ?_) (a' := ?_) #[true, true, true, false, true, false, false, false, false, false, false, false, false] rfl rfl (by kernel_rfl) (fun _ _ _ h => h) (Or.inl ⟨by rfl, ?_⟩) ?_ ?_
          rotate_left
          · intro w'
            go_simp
            with_reducible rfl
          rotate_left
          · simp only [Act.put, List.setIfInBounds_toArray, List.set_cons_zero, List.set_cons_succ, i64_w, i32_w]
            rfl
          refine pure_ (i := 5) (N := some 108) (v := ?_) (a' := ?_) #[true, true, true, false, true, true, false, false, false, false, false, false, false] rfl rfl (by kernel_rfl) (fun _ _ _ h => h) (Or.inl ⟨by rfl, ?_⟩) ?_ ?_
          rotate_left
          · intro w'
            go_simp
            with_reducible rfl
          rotate_left
          · simp only [Act.put, List.setIfInBounds_toArray, List.set_cons_zero, List.set_cons_succ, i64_w, i32_w]
            rfl
          refine take_ (i := 3) (N := some 106) (v := ?_) (a' := ?_) #[true, true, true, true, true, true, false, false, false, false, false, false, false] rfl rfl (by kernel_rfl) (fun _ _ _ h => h) (Or.inl ⟨by rfl, ?_⟩) hHeld ?_ ?_
          rotate_left
          · rintro w' ⟨s0, s1, s2⟩
            go_simp
            with_reducible rfl
          rotate_left
          · simp only [Act.put, List.setIfInBounds_toArray, List.set_cons_zero, List.set_cons_succ, i64_w, i32_w]
            rfl
          refine take_ (i := 6) (N := some 109) (v := ?_) (a' := ?_) #[true, true, true, true, true, true, true, false, false, false, false, false, false] rfl rfl (by kernel_rfl) (fun _ _ _ h => h) (Or.inl ⟨by rfl, ?_⟩) hHeld ?_ ?_
          rotate_left
          · rintro w' ⟨s0, s1, s2⟩
            go_simp
            with_reducible rfl
          rotate_left
          · simp only [Act.put, List.setIfInBounds_toArray, List.set_cons_zero, List.set_cons_succ, i64_w, i32_w]
            rfl
          refine last_ (i := 7) (N := some 110) #[true, true, true, true, true, true, true, true, false, false, false, false, false] rfl rfl (by kernel_rfl) (by decide) (fun K hK => ?_)
          refine goes_ Try.func22 (by kernel_rfl) rfl #[.agg #[.int .i64 1, .slice B 2 d], .int .i64 0, .int .i64 num] (by rfl) rfl rfl (by simp only [List.map_toArray, List.map_cons, List.map_nil]; rfl) ?_
          have CON := links_Next (t := 0) (num := num) (l := s1 l1 h) (w := w16.drew) (s1_two _ _) (Kd.R_reads' X16.out.drew.R1).2.2 (Kd.R_reads' X16.out.drew.R1).2.1 (s1_lt _ _) ne_01 NX1.out NX2.out; have CON2 : Calls Try.prog 22 #[.agg #[.int .i64 1, .slice B 2 d], .int .i64 0, .int .i64 num] w16.drew _ := CON; clear CON
          with_reducible refine (CON2).mono ?_
          rintro x w17 ⟨rfl, hbW⟩
          refine ⟨_, rfl, ?_⟩
          clear CON2
          rw [show (num - 1 == (rd_T64 (s1 l1 h) ((0 : Nat) : Int)).f1) = true by rw [HN.out]; exact nx_yes1]
          have B17 := Aside0.mk (below_step (below_drew B16.out) hbW)
          have X17 := Aside0.mk (X16.out.drew.below hbW)
          have M17 := Aside0.mk (blk_below (blk_drew M16.out) hbW)
          have O17 := Aside0.mk (Kd.R_below (Kd.R_below O16.out (below_drew (Below.refl _ _))) hbW)
          have P17 := Aside0.mk (Kd.R_below (Kd.R_below P16.out (below_drew (Below.refl _ _))) hbW)
          have U17 := Aside0.mk (Kd.R_below (Kd.R_below U16.out (below_drew (Below.refl _ _))) hbW)
          have V17 := Aside0.mk (Kd.R_below (Kd.R_below V16.out (below_drew (Below.refl _ _))) hbW)
          have N17 := Aside0.mk (blk_below (blk_drew N16.out) hbW)
          clear hbW
          refine hK.out _ _ ?_
          clear hK K
          refine norm_ (a' := ?_) ?_ ?_
          rotate_left
          · show Act.put _ (some 110) _ = _
            simp only [Act.put, List.setIfInBounds_toArray, List.set_cons_zero, List.set_cons_succ, i64_w, i32_w]
            rfl
          refine pure_ (i := 8) (N := some 102) (v := ?_) (a' := ?_) #[true, true, true, true, true, true, true, true, true, false, false, false, false] rfl rfl (by kernel_rfl) (fun _ _ _ h => h) (Or.inl ⟨by rfl, ?_⟩) ?_ ?_
          rotate_left
          · intro w'
            go_simp
            with_reducible rfl
          rotate_left
          · simp only [Act.put, List.setIfInBounds_toArray, List.set_cons_zero, List.set_cons_succ, i64_w, i32_w]
            rfl
          refine pure_ (i := 9) (N := some 111) (v := ?_) (a' := ?_) #[true, true, true, true, true, true, true, true, true, true, false, false, false] rfl rfl (by kernel_rfl) (fun _ _ _ h => h) (Or.inl ⟨by rfl, ?_⟩) ?_ ?_
          rotate_left
          · intro w'
            go_simp
            with_reducible rfl
          rotate_left
          · simp only [Act.put, List.setIfInBounds_toArray, List.set_cons_zero, List.set_cons_succ, i64_w, i32_w]
            rfl
          refine pure_ (i := 10) (N := some 112) (v := ?_) (a' := ?_) #[true, true, true, true, true, true, true, true, true, true, true, false, false] rfl rfl (by kernel_rfl) (fun _ _ _ h => h) (Or.inl ⟨by rfl, ?_⟩) ?_ ?_
          rotate_left
          · intro w'
            go_simp
            with_reducible rfl
          rotate_left
          · simp only [Act.put, List.setIfInBounds_toArray, List.set_cons_zero, List.set_cons_succ, i64_w, i32_w]
            rfl
          refine pure_ (i := 11) (N := some 17) (v := ?_) (a' := ?_) #[true, true, true, true, true, true, true, true, true, true, true, true, false] rfl rfl (by kernel_rfl) (fun _ _ _ h => h) (Or.inl ⟨by rfl, ?_⟩) ?_ ?_
          rotate_left
          · intro w'
            go_simp
            with_reducible rfl
          rotate_left
          · simp only [Act.put, List.setIfInBounds_toArray, List.set_cons_zero, List.set_cons_succ, i64_w, i32_w]
            rfl
          refine pure_ (i := 12) (N := some 18) (v := ?_) (a' := ?_) #[true, true, true, true, true, true, true, true, true, true, true, true, true] rfl rfl (by kernel_rfl) (fun _ _ _ h => h) (Or.inl ⟨by rfl, ?_⟩) ?_ ?_
          rotate_left
          · intro w'
            go_simp
            with_reducible rfl
          rotate_left
          · simp only [Act.put, List.setIfInBounds_toArray, List.set_cons_zero, List.set_cons_succ, i64_w, i32_w]
            rfl
          refine done_ (by kernel_rfl) ?_
          clear B16 X16 M16 O16 P16 U16 V16 N16
          have tc0 : w17.cell? ⟨g7, 0, none⟩ = some (.int .i64 0) := (blk_cell X17.out.blk 0).trans rfl; have tf0 := blk_frozen X17.out.blk 0; have tc1 : w17.cell? ⟨g7, 1, none⟩ = some (.slice A 2 c) := (blk_cell X17.out.blk 1).trans rfl; have tf1 := blk_frozen X17.out.blk 1; have tc2 : w17.cell? ⟨g7, 2, none⟩ = some (.int .i64 1) := (blk_cell X17.out.blk 2).trans rfl; have tf2 := blk_frozen X17.out.blk 2; have tc3 : w17.cell? ⟨g7, 3, none⟩ = some (.slice B 2 d) := (blk_cell X17.out.blk 3).trans rfl; have tf3 := blk_frozen X17.out.blk 3
          go_wp2_with fail
          have CON := links_Hear (t := 0) (l := s1 l1 h) (w := w17) (s1_two _ _) B17.out.size X17.out.R1 (fit_s1h H20.out.2.1 H20.out.1 HLT.out) (s1_lt _ _) ne_01
          have CON2 : Calls Try.prog 23 #[.agg #[.int .i64 1, .slice B 2 d], .int .i64 0] w17 _ := CON
          clear CON
          refine CON2.mono ?_
          rintro x w18 ⟨A18, c18, rfl, hR, hbW⟩
          clear CON2 tc0 tf0 tc1 tf1 tc2 tf2 tc3 tf3
          rw [← s1_two] at hR
          rw [← s1_two]
          rw [s1_hear] at hR
          have R18 := Aside0.mk (okn_of hR (fun k hk => ⟨fun e => by subst e; exact absurd (blk_lt X17.out.blk) (Nat.not_lt.mpr hk), fun e => by subst e; exact absurd (blk_lt M17.out) (Nat.not_lt.mpr hk)⟩))
          have B18 := Aside0.mk (below_step B17.out hbW)
          have X18 := Aside0.mk (X17.out.below hbW)
          have M18 := Aside0.mk (blk_below M17.out hbW)
          have O18 := Aside0.mk (Kd.R_below O17.out hbW)
          have P18 := Aside0.mk (Kd.R_below P17.out hbW)
          have U18 := Aside0.mk (Kd.R_below U17.out hbW)
          have V18 := Aside0.mk (Kd.R_below V17.out hbW)
          have N18 := Aside0.mk (blk_below N17.out hbW)
          have tc0 : w18.cell? ⟨g7, 0, none⟩ = some (.int .i64 0) := (blk_cell X18.out.blk 0).trans rfl
          have tf0 := blk_frozen X18.out.blk 0
          have tc1 : w18.cell? ⟨g7, 1, none⟩ = some (.slice A 2 c) := (blk_cell X18.out.blk 1).trans rfl
          have tf1 := blk_frozen X18.out.blk 1
          have tc2 : w18.cell? ⟨g7, 2, none⟩ = some (.int .i64 1) := (blk_cell X18.out.blk 2).trans rfl
          have tf2 := blk_frozen X18.out.blk 2
          have tc3 : w18.cell? ⟨g7, 3, none⟩ = some (.slice B 2 d) := (blk_cell X18.out.blk 3).trans rfl
          have tf3 := blk_frozen X18.out.blk 3
          clear hbW hR
          dsimp only
          go_upto_region 30 with fail
          have B19 := Aside0.mk (below_setB (below_setB B18.out (p := ⟨g7, 2, none⟩) G7.out (.int .i64 1)) (p := ⟨g7, 3, none⟩) G7.out (.slice A18 2 c18))
          have M19 := Aside0.mk (blk_far (blk_far M18.out (p := ⟨g7, 2, none⟩) (Nat.ne_of_gt G78.out) (.int .i64 1)) (p := ⟨g7, 3, none⟩) (Nat.ne_of_gt G78.out) (.slice A18 2 c18))
          have N19 := Aside0.mk (blk_far (blk_far N18.out (p := ⟨g7, 2, none⟩) (Nat.ne_of_gt G16.out) (.int .i64 1)) (p := ⟨g7, 3, none⟩) (Nat.ne_of_gt G16.out) (.slice A18 2 c18))
          have X19 := Aside0.mk (show TB w.heap.size (fun k => k ≠ g7 ∧ k ≠ g8) ((w18.setCell ⟨g7, 2, none⟩ (.int .i64 1)).setCell ⟨g7, 3, none⟩ (.slice A18 2 c18)) g7 (s0 l0 ha) (s1 l1 (h + 1)) A c A18 c18 from X18.out.put1 rfl R18.out (fun k hk => hk.1))
          have O19 := Aside0.mk (Kd.R_kept O18.out (((Kept.refl w18 (fun k => k = g7)).setCell (p := ⟨g7, 2, none⟩) (.inl rfl) (.int .i64 1)).setCell (p := ⟨g7, 3, none⟩) (.inl rfl) (.slice A18 2 c18)) (fun k hk e => hk.1 e)); have P19 := Aside0.mk (Kd.R_kept P18.out (((Kept.refl w18 (fun k => k = g7)).setCell (p := ⟨g7, 2, none⟩) (.inl rfl) (.int .i64 1)).setCell (p := ⟨g7, 3, none⟩) (.inl rfl) (.slice A18 2 c18)) (fun k hk e => hk e)); have U19 := Aside0.mk (Kd.R_kept U18.out (((Kept.refl w18 (fun k => k = g7)).setCell (p := ⟨g7, 2, none⟩) (.inl rfl) (.int .i64 1)).setCell (p := ⟨g7, 3, none⟩) (.inl rfl) (.slice A18 2 c18)) (fun k hk e => hk e)); have V19 := Aside0.mk (Kd.R_kept V18.out (((Kept.refl w18 (fun k => k = g7)).setCell (p := ⟨g7, 2, none⟩) (.inl rfl) (.int .i64 1)).setCell (p := ⟨g7, 3, none⟩) (.inl rfl) (.slice A18 2 c18)) (fun k hk e => hk e))
          clear tc0 tf0 tc1 tf1 tc2 tf2 tc3 tf3 B17 X17 M17 O17 P17 U17 V17 N17 B18 X18 M18 O18 P18 U18 V18 N18 R18
          generalize ((w18.setCell ⟨g7, 2, none⟩ (.int .i64 1)).setCell ⟨g7, 3, none⟩ (.slice A18 2 c18)) = w19 at B19 M19 N19 X19 O19 P19 U19 V19 ⊢
          obtain ⟨cd, B8, D8, B9, D9, eb, x0, x1, x2, x3, x4, x5, x6, x7, x8, x9, x10, l8, g8_, l9, g9⟩ := at_T35 (Kd.C_below HR.out B19.out) (h : Int) (by omega) (by have := HLT.out; omega)
          subst eb
          rw [← HM.out] at x0 x1 x2 x3 x4 x5 x6 x7 x8 x9 x10 l8 g8_ l9 g9
          rw [Int.toNat_natCast] at x0 x1 x2 x3 x4 x5 x6 x7 x8 x9 x10
          have EX := Aside0.mk (show _ from (⟨x0, x1, x2, x3, x4, x5, x6, x7, x8, x9, x10⟩ : (w19.cell? (cd.add (h * 11)) = some (.int .i64 m.f0)) ∧ (w19.cell? ⟨(cd.add (h * 11)).block, (cd.add (h * 11)).off + 1, none⟩ = some (.int .i64 m.f1.f0)) ∧ (w19.cell? ⟨(cd.add (h * 11)).block, (cd.add (h * 11)).off + 2, none⟩ = some (.int .i64 m.f1.f1)) ∧ (w19.cell? ⟨(cd.add (h * 11)).block, (cd.add (h * 11)).off + 3, none⟩ = some (.int .i64 m.f2)) ∧ (w19.cell? ⟨(cd.add (h * 11)).block, (cd.add (h * 11)).off + 4, none⟩ = some (.int .i64 m.f3)) ∧ (w19.cell? ⟨(cd.add (h * 11)).block, (cd.add (h * 11)).off + 5, none⟩ = some (.int .i64 m.f4)) ∧ (w19.cell? ⟨(cd.add (h * 11)).block, (cd.add (h * 11)).off + 6, none⟩ = some (.int .i64 m.f5)) ∧ (w19.cell? ⟨(cd.add (h * 11)).block, (cd.add (h * 11)).off + 7, none⟩ = some (.int .i64 m.f6)) ∧ (w19.cell? ⟨(cd.add (h * 11)).block, (cd.add (h * 11)).off + 8, none⟩ = some (.bool m.f7)) ∧ (w19.cell? ⟨(cd.add (h * 11)).block, (cd.add (h * 11)).off + 9, none⟩ = some (.slice B8 m.f8.length D8)) ∧ (w19.cell? ⟨(cd.add (h * 11)).block, (cd.add (h * 11)).off + 10, none⟩ = some (.slice B9 m.f9.length D9))))
          have G8_ := Aside0.mk (Kd.R_reads' U19.out).2.2; have G9_ := Aside0.mk (Kd.R_reads' V19.out).2.2; have H8_ := Aside0.mk g8_; have H9_ := Aside0.mk g9
          have FB := Aside0.mk (show m.f8.length ≤ 4611686018427387904 ∧ m.f9.length ≤ 4611686018427387904 by have hf := HF.out m (by rw [HM.out, rd35_at HLT.out]; exact List.getElem_mem _); have := hf.1; have := hf.2; omega)
          have b5 : wrap64 (num - 1) = (h : Int) := by have := HN.out; have := HLT.out; have := H20.out; unfold wrap64; omega
          have q7 : ((0 : Int) ≤ (h : Int)) = True := eq_true (by omega); have q8 : ((h : Int) < (l0.length : Int)) = True := eq_true (by have := HLT.out; omega); have q9 : decide ((0 : Int) ≤ (h : Int)) = true := decide_eq_true (by omega); have q10 : decide ((h : Int) < (l0.length : Int)) = true := decide_eq_true (by have := HLT.out; omega)
          clear x0 x1 x2 x3 x4 x5 x6 x7 x8 x9 x10 l8 g8_ l9 g9
          refine start_ (n := 12) (S := fun w' => w'.cell? ⟨g16, 2, none⟩ = some (.int .i64 num) ∧ w'.cell? ⟨g16, 3, none⟩ = some (.int .i64 (ha : Int)) ∧ w'.cell? ⟨g16, 4, none⟩ = some (.int .i64 m.f0) ∧ w'.cell? ⟨g16, 5, none⟩ = some (.int .i64 m.f1.f0) ∧ w'.cell? ⟨g16, 6, none⟩ = some (.int .i64 m.f1.f1) ∧ w'.cell? ⟨g16, 7, none⟩ = some (.int .i64 m.f2) ∧ w'.cell? ⟨g16, 8, none⟩ = some (.int .i64 m.f3) ∧ w'.cell? ⟨g16, 9, none⟩ = some (.int .i64 m.f4) ∧ w'.cell? ⟨g16, 10, none⟩ = some (.int .i64 m.f5) ∧ w'.cell? ⟨g16, 11, none⟩ = some (.int .i64 m.f6) ∧ w'.cell? ⟨g16, 12, none⟩ = some (.bool m.f7) ∧ w'.cell? ⟨g16, 13, none⟩ = some (.slice A13 m.f8.length c13) ∧ w'.cell? ⟨g16, 14, none⟩ = some (.slice A14 m.f9.length c14) ∧ w'.cell? ⟨g8, 0, none⟩ = some (.slice (some cd) l0.length c0) ∧ w'.cell? (cd.add (h * 11)) = some (.int .i64 m.f0) ∧ w'.cell? ⟨(cd.add (h * 11)).block, (cd.add (h * 11)).off + 1, none⟩ = some (.int .i64 m.f1.f0) ∧ w'.cell? ⟨(cd.add (h * 11)).block, (cd.add (h * 11)).off + 2, none⟩ = some (.int .i64 m.f1.f1) ∧ w'.cell? ⟨(cd.add (h * 11)).block, (cd.add (h * 11)).off + 3, none⟩ = some (.int .i64 m.f2) ∧ w'.cell? ⟨(cd.add (h * 11)).block, (cd.add (h * 11)).off + 4, none⟩ = some (.int .i64 m.f3) ∧ w'.cell? ⟨(cd.add (h * 11)).block, (cd.add (h * 11)).off + 5, none⟩ = some (.int .i64 m.f4) ∧ w'.cell? ⟨(cd.add (h * 11)).block, (cd.add (h * 11)).off + 6, none⟩ = some (.int .i64 m.f5) ∧ w'.cell? ⟨(cd.add (h * 11)).block, (cd.add (h * 11)).off + 7, none⟩ = some (.int .i64 m.f6) ∧ w'.cell? ⟨(cd.add (h * 11)).block, (cd.add (h * 11)).off + 8, none⟩ = some (.bool m.f7) ∧ w'.cell? ⟨(cd.add (h * 11)).block, (cd.add (h * 11)).off + 9, none⟩ = some (.slice B8 m.f8.length D8) ∧ w'.cell? ⟨(cd.add (h * 11)).block, (cd.add (h * 11)).off + 10, none⟩ = some (.slice B9 m.f9.length D9)) (ds := [10]) #[false, false, false, false, false, false, false, false, false, false, false, false] (by kernel_rfl) rfl rfl ⟨(blk_cell (blk_drew N19.out) 2).trans rfl, (blk_cell (blk_drew N19.out) 3).trans rfl, (blk_cell (blk_drew N19.out) 4).trans rfl, (blk_cell (blk_drew N19.out) 5).trans rfl, (blk_cell (blk_drew N19.out) 6).trans rfl, (blk_cell (blk_drew N19.out) 7).trans rfl, (blk_cell (blk_drew N19.out) 8).trans rfl, (blk_cell (blk_drew N19.out) 9).trans rfl, (blk_cell (blk_drew N19.out) 10).trans rfl, (blk_cell (blk_drew N19.out) 11).trans rfl, (blk_cell (blk_drew N19.out) 12).trans rfl, (blk_cell (blk_drew N19.out) 13).trans rfl, (blk_cell (blk_drew N19.out) 14).trans rfl, (blk_cell (blk_drew M19.out) 0).trans rfl, cell_bel2 EX.out.1 (below_drew (Below.refl _ _)), cell_bel2 EX.out.2.1 (below_drew (Below.refl _ _)), cell_bel2 EX.out.2.2.1 (below_drew (Below.refl _ _)), cell_bel2 EX.out.2.2.2.1 (below_drew (Below.refl _ _)), cell_bel2 EX.out.2.2.2.2.1 (below_drew (Below.refl _ _)), cell_bel2 EX.out.2.2.2.2.2.1 (below_drew (Below.refl _ _)), cell_bel2 EX.out.2.2.2.2.2.2.1 (below_drew (Below.refl _ _)), cell_bel2 EX.out.2.2.2.2.2.2.2.1 (below_drew (Below.refl _ _)), cell_bel2 EX.out.2.2.2.2.2.2.2.2.1 (below_drew (Below.refl _ _)), cell_bel2 EX.out.2.2.2.2.2.2.2.2.2.1 (below_drew (Below.refl _ _)), cell_bel2 EX.out.2.2.2.2.2.2.2.2.2.2 (below_drew (Below.refl _ _))⟩ (fun hHeld => ?_)
          refine pure_ (i := 0) (N := some 126) (v := ?_) (a' := ?_) #[true, false, false, false, false, false, false, false, false, false, false, false] rfl rfl (by kernel_rfl) (fun _ _ _ h => h) (Or.inl ⟨by rfl, ?_⟩) ?_ ?_
          rotate_left
          · intro w'
            go_simp
            with_reducible rfl
          rotate_left
          · simp only [Act.put, List.setIfInBounds_toArray, List.set_cons_zero, List.set_cons_succ, i64_w, i32_w]
            rfl
          refine pure_ (i := 2) (N := some 128) (v := ?_) (a' := ?_) #[true, false, true, false, false, false, false, false, false, false, false, false] rfl rfl (by kernel_rfl) (fun _ _ _ h => h) (Or.inl ⟨by rfl, ?_⟩) ?_ ?_
          rotate_left
          · intro w'
            go_simp
            with_reducible rfl
          rotate_left
          · simp only [Act.put, List.setIfInBounds_toArray, List.set_cons_zero, List.set_cons_succ, i64_w, i32_w]
            rfl
          refine pure_ (i := 3) (N := some 129) (v := ?_) (a' := ?_) #[true, false, true, true, false, false, false, false, false, false, false, false] rfl rfl (by kernel_rfl) (fun _ _ _ h => h) (Or.inl ⟨by rfl, ?_⟩) ?_ ?_
          rotate_left
          · intro w'
            go_simp
            with_reducible rfl
          rotate_left
          · simp only [Act.put, List.setIfInBounds_toArray, List.set_cons_zero, List.set_cons_succ, i64_w, i32_w]
            rfl
          refine pure_ (i := 5) (N := some 131) (v := ?_) (a' := ?_) #[true, false, true, true, false, true, false, false, false, false, false, false] rfl rfl (by kernel_rfl) (fun _ _ _ h => h) (Or.inl ⟨by rfl, ?_⟩) ?_ ?_
          rotate_left
          · intro w'
            go_simp
            with_reducible rfl
          rotate_left
          · simp only [Act.put, List.setIfInBounds_toArray, List.set_cons_zero, List.set_cons_succ, i64_w, i32_w]
            rfl
          refine take_ (i := 1) (N := some 127) (v := ?_) (a' := ?_) #[true, true, true, true, false, true, false, false, false, false, false, false] rfl rfl (by kernel_rfl) (fun _ _ _ h => h) (Or.inl ⟨by rfl, ?_⟩) hHeld ?_ ?_
          rotate_left
          · rintro w' ⟨s0, s1, s2, s3, s4, s5, s6, s7, s8, s9, s10, s11, s12, s13, s14, s15, s16, s17, s18, s19, s20, s21, s22, s23, s24⟩
            go_simp
            with_reducible rfl
          rotate_left
          · simp only [Act.put, List.setIfInBounds_toArray, List.set_cons_zero, List.set_cons_succ, i64_w, i32_w]
            rfl
          refine take_ (i := 4) (N := some 130) (v := ?_) (a' := ?_) #[true, true, true, true, true, true, false, false, false, false, false, false] rfl rfl (by kernel_rfl) (fun _ _ _ h => h) (Or.inl ⟨by rfl, ?_⟩) hHeld ?_ ?_
          rotate_left
          · rintro w' ⟨s0, s1, s2, s3, s4, s5, s6, s7, s8, s9, s10, s11, s12, s13, s14, s15, s16, s17, s18, s19, s20, s21, s22, s23, s24⟩
            go_simp
            with_reducible rfl
          rotate_left
          · simp only [Act.put, List.setIfInBounds_toArray, List.set_cons_zero, List.set_cons_succ, i64_w, i32_w]
            rfl
          refine take_ (i := 6) (N := some 132) (v := ?_) (a' := ?_) #[true, true, true, true, true, true, true, false, false, false, false, false] rfl rfl (by kernel_rfl) (fun _ _ _ h => h) (Or.inl ⟨by rfl, ?_⟩) hHeld ?_ ?_
          rotate_left
          · rintro w' ⟨s0, s1, s2, s3, s4, s5, s6, s7, s8, s9, s10, s11, s12, s13, s14, s15, s16, s17, s18, s19, s20, s21, s22, s23, s24⟩
            go_simp
            with_reducible rfl
          rotate_left
          · simp only [Act.put, List.setIfInBounds_toArray, List.set_cons_zero, List.set_cons_succ, i64_w, i32_w]
            rfl
          refine pure_ (i := 7) (N := some 133) (v := ?_) (a' := ?_) #[true, true, true, true, true, true, true, true, false, false, false, false] rfl rfl (by kernel_rfl) (fun _ _ _ h => h) (Or.inl ⟨by rfl, ?_⟩) ?_ ?_
          rotate_left
          · intro w'
            go_simp
            with_reducible rfl
          rotate_left
          · simp only [Act.put, List.setIfInBounds_toArray, List.set_cons_zero, List.set_cons_succ, i64_w, i32_w]
            rfl
          refine pure_ (i := 8) (N := some 134) (v := ?_) (a' := ?_) #[true, true, true, true, true, true, true, true, true, false, false, false] rfl rfl (by kernel_rfl) (fun _ _ _ h => h) (Or.inl ⟨by rfl, ?_⟩) ?_ ?_
          rotate_left
          · intro w'
            go_simp
            with_reducible rfl
          rotate_left
          · simp only [Act.put, List.setIfInBounds_toArray, List.set_cons_zero, List.set_cons_succ, i64_w, i32_w]
            rfl
          refine take_ (i := 9) (N := some 135) (v := ?_) (a' := ?_) #[true, true, true, true, true, true, true, true, true, true, false, false] rfl rfl (by kernel_rfl) (fun _ _ _ h => h) (Or.inl ⟨by rfl, ?_⟩) hHeld ?_ ?_
          rotate_left
          · rintro w' ⟨s0, s1, s2, s3, s4, s5, s6, s7, s8, s9, s10, s11, s12, s13, s14, s15, s16, s17, s18, s19, s20, s21, s22, s23, s24⟩
            go_simp
            with_reducible rfl
          rotate_left
          · simp only [Act.put, List.setIfInBounds_toArray, List.set_cons_zero, List.set_cons_succ, i64_w, i32_w]
            rfl
          refine last_ (i := 10) (N := some 136) #[true, true, true, true, true, true, true, true, true, true, true, false] rfl rfl (by kernel_rfl) (by decide) (fun K hK => ?_)
          refine goes_ Try.func24 (by kernel_rfl) rfl #[.agg #[.int .i64 m.f0, .int .i64 m.f1.f0, .int .i64 m.f1.f1, .int .i64 m.f2, .int .i64 m.f3, .int .i64 m.f4, .int .i64 m.f5, .int .i64 m.f6, .bool m.f7, .slice A13 m.f8.length c13, .slice A14 m.f9.length c14], .agg #[.int .i64 m.f0, .int .i64 m.f1.f0, .int .i64 m.f1.f1, .int .i64 m.f2, .int .i64 m.f3, .int .i64 m.f4, .int .i64 m.f5, .int .i64 m.f6, .bool m.f7, .slice B8 m.f8.length D8, .slice B9 m.f9.length D9]] (by rfl) rfl rfl (by simp only [List.map_toArray, List.map_cons, List.map_nil]; rfl) ?_
          with_reducible refine (same_calls (m := m) (w := w19.drew) (Kd.C_below G8_.out (below_drew (Below.refl _ _))) (Kd.C_below G9_.out (below_drew (Below.refl _ _))) (Kd.C_below H8_.out (below_drew (Below.refl _ _))) (Kd.C_below H9_.out (below_drew (Below.refl _ _))) FB.out.1 FB.out.2).mono ?_
          rintro x w22 ⟨rfl, hb⟩
          refine ⟨_, rfl, ?_⟩
          have B22 := Aside0.mk (below_step (below_drew B19.out) hb); have X22 := Aside0.mk (X19.out.drew.below hb); have M22 := Aside0.mk (blk_below (blk_drew M19.out) hb); have O22 := Aside0.mk (Kd.R_below (Kd.R_below O19.out (below_drew (Below.refl _ _))) hb); have P22 := Aside0.mk (Kd.R_below (Kd.R_below P19.out (below_drew (Below.refl _ _))) hb)
          clear hb
          refine hK.out _ _ ?_
          clear hK K
          refine norm_ (a' := ?_) ?_ ?_
          rotate_left
          · show Act.put _ (some 136) _ = _
            simp only [Act.put, List.setIfInBounds_toArray, List.set_cons_zero, List.set_cons_succ, i64_w, i32_w]
            rfl
          refine pure_ (i := 11) (N := some 137) (v := ?_) (a' := ?_) #[true, true, true, true, true, true, true, true, true, true, true, true] rfl rfl (by kernel_rfl) (fun _ _ _ h => h) (Or.inl ⟨by rfl, ?_⟩) ?_ ?_
          rotate_left
          · intro w'
            go_simp
            with_reducible rfl
          rotate_left
          · simp only [Act.put, List.setIfInBounds_toArray, List.set_cons_zero, List.set_cons_succ, i64_w, i32_w]
            rfl
          refine done_ (by kernel_rfl) ?_
          go_wp2_with fail
          go_roundg (gk - 1)
          case measure => have := NJ.out.2; omega
          case rel => exact ⟨j + 1, h + 1, A, c, A18, c18, by (first | rw [b2] | rfl), ⟨NJ.out.1⟩, ⟨by have := HHJ.out; rw [if_pos HHI.out]; omega⟩, B22, M22, X22, O22, P22⟩
      · obtain ⟨ed, E_, e_, eB, y0, y1, l0_, g0_⟩ := at_T64 (Kd.R_reads' X13.out.R0).2.2 (1 : Int) (by decide) (show (1 : Int) < 2 by decide)
        subst eB
        rw [show (rd_T64 (s0 l0 ha) (1 : Int)).f1 = (ha : Int) from rfl] at y1
        clear y0 l0_ g0_
        have tc0 : w13.cell? ⟨g7, 0, none⟩ = some (.int .i64 0) := (blk_cell X13.out.blk 0).trans rfl; have tf0 := blk_frozen X13.out.blk 0; have tc1 : w13.cell? ⟨g7, 1, none⟩ = some (.slice (some ed) 2 c') := (blk_cell X13.out.blk 1).trans rfl; have tf1 := blk_frozen X13.out.blk 1; have tc2 : w13.cell? ⟨g7, 2, none⟩ = some (.int .i64 1) := (blk_cell X13.out.blk 2).trans rfl; have tf2 := blk_frozen X13.out.blk 2; have tc3 : w13.cell? ⟨g7, 3, none⟩ = some (.slice B' 2 d') := (blk_cell X13.out.blk 3).trans rfl; have tf3 := blk_frozen X13.out.blk 3
        have Y1 := Aside0.mk y1
        have e64 : wrap64 (1 : Int) = 1 := by unfold wrap64; omega
        have e64b : wrap64 (0 : Int) = 0 := by unfold wrap64; omega
        clear y1 tc0 tf0 tc1 tf1 tc2 tf2 tc3 tf3
        go_wp2_with fail
        refine start_ (n := 17) (S := fun w' => w'.cell? ⟨g7, 0, none⟩ = some (.int .i64 0) ∧ w'.cell? ⟨g7, 1, none⟩ = some (.slice (some ed) 2 c') ∧ w'.cell? ⟨g7, 2, none⟩ = some (.int .i64 1) ∧ w'.cell? ⟨g7, 3, none⟩ = some (.slice B' 2 d') ∧ w'.cell? ⟨ed.block, ed.off + 2 + 1, none⟩ = some (.int .i64 (ha : Int))) (ds := [14]) #[false, false, false, false, false, false, false, false, false, false, false, false, false, false, false, false, false] (by kernel_rfl) rfl rfl ⟨(blk_cell (blk_drew X13.out.blk) 0).trans rfl, (blk_cell (blk_drew X13.out.blk) 1).trans rfl, (blk_cell (blk_drew X13.out.blk) 2).trans rfl, (blk_cell (blk_drew X13.out.blk) 3).trans rfl, cell_bel2 Y1.out (below_drew (Below.refl _ _))⟩ (fun hHeld => ?_)
        refine pure_ (i := 0) (N := some 82) (v := ?_) (a' := ?_) #[true, false, false, false, false, false, false, false, false, false, false, false, false, false, false, false, false] rfl rfl (by kernel_rfl) (fun _ _ _ h => h) (Or.inl ⟨by rfl, ?_⟩) ?_ ?_
        rotate_left
        · intro w'
          go_simp
          with_reducible rfl
        rotate_left
        · simp only [Act.put, List.setIfInBounds_toArray, List.set_cons_zero, List.set_cons_succ, i64_w, i32_w]
          rfl
        refine pure_ (i := 1) (N := some 83) (v := ?_) (a' := ?_) #[true, true, false, false, false, false, false, false, false, false, false, false, false, false, false, false, false] rfl rfl (by kernel_rfl) (fun _ _ _ h => h) (Or.inl ⟨by rfl, ?_⟩) ?_ ?_
        rotate_left
        · intro w'
          go_simp
          with_reducible rfl
        rotate_left
        · simp only [Act.put, List.setIfInBounds_toArray, List.set_cons_zero, List.set_cons_succ, i64_w, i32_w]
          rfl
        refine pure_ (i := 3) (N := some 85) (v := ?_) (a' := ?_) #[true, true, false, true, false, false, false, false, false, false, false, false, false, false, false, false, false] rfl rfl (by kernel_rfl) (fun _ _ _ h => h) (Or.inl ⟨by rfl, ?_⟩) ?_ ?_
        rotate_left
        · intro w'
          go_simp
          with_reducible rfl
        rotate_left
        · simp only [Act.put, List.setIfInBounds_toArray, List.set_cons_zero, List.set_cons_succ, i64_w, i32_w]
          rfl
        refine pure_ (i := 4) (N := some 86) (v := ?_) (a' := ?_) #[true, true, false, true, true, false, false, false, false, false, false, false, false, false, false, false, false] rfl rfl (by kernel_rfl) (fun _ _ _ h => h) (Or.inl ⟨by rfl, ?_⟩) ?_ ?_
        rotate_left
        · intro w'
          go_simp
          with_reducible rfl
        rotate_left
        · simp only [Act.put, List.setIfInBounds_toArray, List.set_cons_zero, List.set_cons_succ, i64_w, i32_w]
          rfl
        refine pure_ (i := 5) (N := some 87) (v := ?_) (a' := ?_) #[true, true, false, true, true, true, false, false, false, false, false, false, false, false, false, false, false] rfl rfl (by kernel_rfl) (fun _ _ _ h => h) (Or.inl ⟨by rfl, ?_⟩) ?_ ?_
        rotate_left
        · intro w'
          go_simp
          with_reducible rfl
        rotate_left
        · simp only [Act.put, List.setIfInBounds_toArray, List.set_cons_zero, List.set_cons_succ, i64_w, i32_w]
          rfl
        refine pure_ (i := 6) (N := some 88) (v := ?_) (a' := ?_) #[true, true, false, true, true, true, true, false, false, false, false, false, false, false, false, false, false] rfl rfl (by kernel_rfl) (fun _ _ _ h => h) (Or.inl ⟨by rfl, ?_⟩) ?_ ?_
        rotate_left
        · intro w'
          go_simp
          with_reducible rfl
        rotate_left
        · simp only [Act.put, List.setIfInBounds_toArray, List.set_cons_zero, List.set_cons_succ, i64_w, i32_w]
          rfl
        refine pure_ (i := 7) (N := some 89) (v := ?_) (a' := ?_) #[true, true, false, true, true, true, true, true, false, false, false, false, false, false, false, false, false] rfl rfl (by kernel_rfl) (fun _ _ _ h => h) (Or.inl ⟨by rfl, ?_⟩) ?_ ?_
        rotate_left
        · intro w'
          go_simp
          with_reducible rfl
        rotate_left
        · simp only [Act.put, List.setIfInBounds_toArray, List.set_cons_zero, List.set_cons_succ, i64_w, i32_w]
          rfl
        refine pure_ (i := 8) (N := some 90) (v := ?_) (a' := ?_) #[true, true, false, true, true, true, true, true, true, false, false, false, false, false, false, false, false] rfl rfl (by kernel_rfl) (fun _ _ _ h => h) (Or.inl ⟨by rfl, ?_⟩) ?_ ?_
        rotate_left
        · intro w'
          go_simp
          with_reducible rfl
        rotate_left
        · simp only [Act.put, List.setIfInBounds_toArray, List.set_cons_zero, List.set_cons_succ, i64_w, i32_w]
          rfl
        refine pure_ (i := 10) (N := some 92) (v := ?_) (a' := ?_) #[true, true, false, true, true, true, true, true, true, false, true, false, false, false, false, false, false] rfl rfl (by kernel_rfl) (fun _ _ _ h => h) (Or.inl ⟨by rfl, ?_⟩) ?_ ?_
        rotate_left
        · intro w'
          go_simp
          with_reducible rfl
        rotate_left
        · simp only [Act.put, List.setIfInBounds_toArray, List.set_cons_zero, List.set_cons_succ, i64_w, i32_w]
          rfl
        refine pure_ (i := 16) (N := some 98) (v := ?_) (a' := ?_) #[true, true, false, true, true, true, true, true, true, false, true, false, false, false, false, false, true] rfl rfl (by kernel_rfl) (fun _ _ _ h => h) (Or.inl ⟨by rfl, ?_⟩) ?_ ?_
        rotate_left
        · intro w'
          go_simp
          with_reducible rfl
        rotate_left
        · simp only [Act.put, List.setIfInBounds_toArray, List.set_cons_zero, List.set_cons_succ, i64_w, i32_w]
          rfl
        refine take_ (i := 2) (N := some 84) (v := ?_) (a' := ?_) #[true, true, true, true, true, true, true, true, true, false, true, false, false, false, false, false, true] rfl rfl (by kernel_rfl) (fun _ _ _ h => h) (Or.inl ⟨by rfl, ?_⟩) hHeld ?_ ?_
        rotate_left
        · rintro w' ⟨s0, s1, s2, s3, s4⟩
          go_simp
          with_reducible rfl
        rotate_left
        · simp only [Act.put, List.setIfInBounds_toArray, List.set_cons_zero, List.set_cons_succ, i64_w, i32_w]
          rfl
        refine take_ (i := 9) (N := some 91) (v := ?_) (a' := ?_) #[true, true, true, true, true, true, true, true, true, true, true, false, false, false, false, false, true] rfl rfl (by kernel_rfl) (fun _ _ _ h => h) (Or.inl ⟨by rfl, ?_⟩) hHeld ?_ ?_
        rotate_left
        · rintro w' ⟨s0, s1, s2, s3, s4⟩
          go_simp
          with_reducible rfl
        rotate_left
        · simp only [Act.put, List.setIfInBounds_toArray, List.set_cons_zero, List.set_cons_succ, i64_w, i32_w]
          rfl
        refine pure_ (i := 11) (N := some 93) (v := ?_) (a' := ?_) #[true, true, true, true, true, true, true, true, true, true, true, true, false, false, false, false, true] rfl rfl (by kernel_rfl) (fun _ _ _ h => h) (Or.inl ⟨by rfl, ?_⟩) ?_ ?_
        rotate_left
        · intro w'
          go_simp
          with_reducible rfl
        rotate_left
        · simp only [Act.put, List.setIfInBounds_toArray, List.set_cons_zero, List.set_cons_succ, i64_w, i32_w]
          rfl
        refine pure_ (i := 12) (N := some 94) (v := ?_) (a' := ?_) #[true, true, true, true, true, true, true, true, true, true, true, true, true, false, false, false, true] rfl rfl (by kernel_rfl) (fun _ _ _ h => h) (Or.inl ⟨by rfl, ?_⟩) ?_ ?_
        rotate_left
        · intro w'
          go_simp
          with_reducible rfl
        rotate_left
        · simp only [Act.put, List.setIfInBounds_toArray, List.set_cons_zero, List.set_cons_succ, i64_w, i32_w]
          rfl
        refine take_ (i := 13) (N := some 95) (v := ?_) (a' := ?_) #[true, true, true, true, true, true, true, true, true, true, true, true, true, true, false, false, true] rfl rfl (by kernel_rfl) (fun _ _ _ h => h) (Or.inl ⟨by rfl, ?_⟩) hHeld ?_ ?_
        rotate_left
        · rintro w' ⟨s0, s1, s2, s3, s4⟩
          go_simp
          with_reducible rfl
        rotate_left
        · simp only [Act.put, List.setIfInBounds_toArray, List.set_cons_zero, List.set_cons_succ, i64_w, i32_w]
          rfl
        refine last_ (i := 14) (N := some 96) #[true, true, true, true, true, true, true, true, true, true, true, true, true, true, true, false, true] rfl rfl (by kernel_rfl) (by decide) (fun K hK => ?_)
        refine goes_ Try.func21 (by kernel_rfl) rfl #[.agg #[.int .i64 1, .slice B' 2 d'], .int .i64 (wrap64 0), .int .i64 (ha : Int)] (by rfl) rfl rfl (by simp only [List.map_toArray, List.map_cons, List.map_nil]; rfl) ?_
        rw [show wrap64 (0 : Int) = ((0 : Nat) : Int) by unfold wrap64; omega]
        with_reducible refine (links_Packets (t := 0) (k := ha) (l := s1 l1 hb) (w := w13.drew) (s1_two _ _) (Kd.R_reads' X13.out.drew.R1).2.2 (Kd.R_reads' X13.out.drew.R1).2.1 (fit_s1'' H20.out HH.out) (s1_lt _ _) ne_01 (mx_nat _) (fit_T1 HF1.out)).mono ?_
        rintro x w14 ⟨v14, rfl, hP, hbW⟩
        refine ⟨_, rfl, ?_⟩
        rw [s1_T] at hP
        obtain ⟨PL, hPL⟩ : ∃ PL, PL = packL 1 ((0 : Nat) : Int) ⟨l1, (hb : Int)⟩ ha := ⟨_, rfl⟩
        rw [← hPL] at hP
        obtain ⟨AP, cP, eP⟩ := Kd.R_slice hP
        subst eP
        have P14 := Aside0.mk (Kd.R_mono (ok' := fun k => k ≠ g7) (Kd.R_bound hP) (fun k hk e => by subst e; exact absurd (blk_lt X13.out.drew.blk) (Nat.not_lt.mpr hk.2.1)))
        have B14 := Aside0.mk (below_step (below_drew B13.out) hbW)
        have X14 := Aside0.mk (X13.out.drew.below hbW)
        have M14 := Aside0.mk (blk_below (blk_drew M13.out) hbW)
        have O14 := Aside0.mk (Kd.R_below (Kd.R_below O13.out (below_drew (Below.refl _ _))) hbW)
        have HPL := Aside0.mk hPL
        clear hbW hP hPL
        refine hK.out _ _ ?_
        clear hK K
        refine norm_ (a' := ?_) ?_ ?_
        rotate_left
        · show Act.put _ (some 96) _ = _
          simp only [Act.put, List.setIfInBounds_toArray, List.set_cons_zero, List.set_cons_succ, i64_w, i32_w]
          rfl
        refine pure_ (i := 15) (N := some 97) (v := ?_) (a' := ?_) #[true, true, true, true, true, true, true, true, true, true, true, true, true, true, true, true, true] rfl rfl (by kernel_rfl) (fun _ _ _ h => h) (Or.inl ⟨by rfl, ?_⟩) ?_ ?_
        rotate_left
        · intro w'
          go_simp
          with_reducible rfl
        rotate_left
        · simp only [Act.put, List.setIfInBounds_toArray, List.set_cons_zero, List.set_cons_succ, i64_w, i32_w]
          rfl
        refine done_ (by kernel_rfl) ?_
        go_wp2_with fail
        go_loopg [98] (PL.length + 1) (fun kq v98 w' => ∃ (j h : Nat) (A : Option Addr) (c : Nat) (B : Option Addr) (d : Nat), v98 = .int .i64 (j : Int) ∧ Aside0 (j ≤ PL.length ∧ j + kq = PL.length + 1) ∧ Aside0 (h = if ha < l1.length then ha + j else ha) ∧ Aside0 (Below w.heap.size w w') ∧ Aside0 (w'.heap[g8]? = some (.cells #[.slice A0 l0.length c0, .slice A1 l1.length c1] 69 (0, 0))) ∧ Aside0 (TB w.heap.size (fun k => k ≠ g7 ∧ k ≠ g8) w' g7 (s0 l0 h) (s1 l1 hb) A c B d) ∧ Aside0 (Kd.R Kd.bool 4 w' w.heap.size (fun k => k ≠ g7 ∧ k ≠ g8) (.slice (some ad) OL.length c12) OL) ∧ Aside0 (Kd.R k37 37 w' w13.drew.heap.size (fun k => k ≠ g7) (.slice AP PL.length cP) PL))
        case atStart => exact ⟨0, ha, (some ed), c', B', d', rfl, ⟨by omega, by omega⟩, ⟨by split <;> rfl⟩, B14, M14, X14, O14, P14⟩
        case round =>
          obtain ⟨j, h, A, c, B, d, rfl, HJ, Hh, B15, M15, X15, O15, P15⟩ := hrel
          clear B14 M14 X14 O14 P14
          generalize wr = w15 at B15 M15 X15 O15 P15 ⊢
          by_cases hj : j < PL.length
          rotate_left
          · have hend := pack_end (me := 1) (t := ((0 : Nat) : Int)) (s := (hb : Int)) (l := l1) (k := ha) (j := j) (h := h) (by have := HH.out; omega) (HPL.out ▸ HJ.out.1) (HPL.out ▸ hj) Hh.out
            have d1 : decide ((j : Int) < (PL.length : Int)) = false := decide_eq_false (by omega)
            have d2 : decide (j < PL.length) = false := decide_eq_false hj
            have d3 : (j < PL.length) = False := eq_false hj
            have HE := Aside0.mk hend
            have B16 := Aside0.mk B15.out; have X16 := Aside0.mk X15.out; have M16 := Aside0.mk M15.out; have O16 := Aside0.mk O15.out
            clear hj hend B15 X15 M15 O15 P15
            go_wp2_with fail
            clear d1 d2 d3
            obtain ⟨ed2, E2_, e2_, eB2, y0, y1, l0_, g0_⟩ := at_T64 (Kd.R_reads' X16.out.R0).2.2 (1 : Int) (by decide) (show (1 : Int) < 2 by decide)
            subst eB2
            rw [show (rd_T64 (s0 l0 h) (1 : Int)).f1 = (h : Int) from rfl, HE.out] at y1
            clear y0 l0_ g0_
            have Y2 := Aside0.mk y1
            clear y1
            refine start_ (n := 14) (S := fun w' => w'.cell? ⟨g7, 0, none⟩ = some (.int .i64 0) ∧ w'.cell? ⟨g7, 1, none⟩ = some (.slice (some ed2) 2 c) ∧ w'.cell? ⟨ed2.block, ed2.off + 2 + 1, none⟩ = some (.int .i64 (l1.length : Int)) ∧ w'.cell? ⟨g8, 1, none⟩ = some (.slice A1 l1.length c1)) (ds := [13]) #[false, false, false, false, false, false, false, false, false, false, false, false, false, false] (by kernel_rfl) rfl rfl ⟨(blk_cell (blk_drew X16.out.blk) 0).trans rfl, (blk_cell (blk_drew X16.out.blk) 1).trans rfl, cell_bel2 Y2.out (below_drew (Below.refl _ _)), (blk_cell (blk_drew M16.out) 1).trans rfl⟩ (fun hHeld => ?_)
            refine pure_ (i := 0) (N := some 139) (v := ?_) (a' := ?_) #[true, false, false, false, false, false, false, false, false, false, false, false, false, false] rfl rfl (by kernel_rfl) (fun _ _ _ h => h) (Or.inl ⟨by rfl, ?_⟩) ?_ ?_
            rotate_left
            · intro w'
              go_simp
              with_reducible rfl
            rotate_left
            · simp only [Act.put, List.setIfInBounds_toArray, List.set_cons_zero, List.set_cons_succ, i64_w, i32_w]
              rfl
            refine pure_ (i := 1) (N := some 140) (v := ?_) (a' := ?_) #[true, true, false, false, false, false, false, false, false, false, false, false, false, false] rfl rfl (by kernel_rfl) (fun _ _ _ h => h) (Or.inl ⟨by rfl, ?_⟩) ?_ ?_
            rotate_left
            · intro w'
              go_simp
              with_reducible rfl
            rotate_left
            · simp only [Act.put, List.setIfInBounds_toArray, List.set_cons_zero, List.set_cons_succ, i64_w, i32_w]
              rfl
            refine pure_ (i := 2) (N := some 141) (v := ?_) (a' := ?_) #[true, true, true, false, false, false, false, false, false, false, false, false, false, false] rfl rfl (by kernel_rfl) (fun _ _ _ h => h) (Or.inl ⟨by rfl, ?_⟩) ?_ ?_
            rotate_left
            · intro w'
              go_simp
              with_reducible rfl
            rotate_left
            · simp only [Act.put, List.setIfInBounds_toArray, List.set_cons_zero, List.set_cons_succ, i64_w, i32_w]
              rfl
            refine pure_ (i := 3) (N := some 142) (v := ?_) (a' := ?_) #[true, true, true, true, false, false, false, false, false, false, false, false, false, false] rfl rfl (by kernel_rfl) (fun _ _ _ h => h) (Or.inl ⟨by rfl, ?_⟩) ?_ ?_
            rotate_left
            · intro w'
              go_simp
              with_reducible rfl
            rotate_left
            · simp only [Act.put, List.setIfInBounds_toArray, List.set_cons_zero, List.set_cons_succ, i64_w, i32_w]
              rfl
            refine pure_ (i := 5) (N := some 144) (v := ?_) (a' := ?_) #[true, true, true, true, false, true, false, false, false, false, false, false, false, false] rfl rfl (by kernel_rfl) (fun _ _ _ h => h) (Or.inl ⟨by rfl, ?_⟩) ?_ ?_
            rotate_left
            · intro w'
              go_simp
              with_reducible rfl
            rotate_left
            · simp only [Act.put, List.setIfInBounds_toArray, List.set_cons_zero, List.set_cons_succ, i64_w, i32_w]
              rfl
            refine pure_ (i := 9) (N := some 148) (v := ?_) (a' := ?_) #[true, true, true, true, false, true, false, false, false, true, false, false, false, false] rfl rfl (by kernel_rfl) (fun _ _ _ h => h) (Or.inl ⟨by rfl, ?_⟩) ?_ ?_
            rotate_left
            · intro w'
              go_simp
              with_reducible rfl
            rotate_left
            · simp only [Act.put, List.setIfInBounds_toArray, List.set_cons_zero, List.set_cons_succ, i64_w, i32_w]
              rfl
            refine pure_ (i := 10) (N := some 149) (v := ?_) (a' := ?_) #[true, true, true, true, false, true, false, false, false, true, true, false, false, false] rfl rfl (by kernel_rfl) (fun _ _ _ h => h) (Or.inl ⟨by rfl, ?_⟩) ?_ ?_
            rotate_left
            · intro w'
              go_simp
              with_reducible rfl
            rotate_left
            · simp only [Act.put, List.setIfInBounds_toArray, List.set_cons_zero, List.set_cons_succ, i64_w, i32_w]
              rfl
            refine take_ (i := 4) (N := some 143) (v := ?_) (a' := ?_) #[true, true, true, true, true, true, false, false, false, true, true, false, false, false] rfl rfl (by kernel_rfl) (fun _ _ _ h => h) (Or.inl ⟨by rfl, ?_⟩) hHeld ?_ ?_
            rotate_left
            · rintro w' ⟨s0, s1, s2, s3⟩
              go_simp
              with_reducible rfl
            rotate_left
            · simp only [Act.put, List.setIfInBounds_toArray, List.set_cons_zero, List.set_cons_succ, i64_w, i32_w]
              rfl
            refine pure_ (i := 6) (N := some 145) (v := ?_) (a' := ?_) #[true, true, true, true, true, true, true, false, false, true, true, false, false, false] rfl rfl (by kernel_rfl) (fun _ _ _ h => h) (Or.inl ⟨by rfl, ?_⟩) ?_ ?_
            rotate_left
            · intro w'
              go_simp
              with_reducible rfl
            rotate_left
            · simp only [Act.put, List.setIfInBounds_toArray, List.set_cons_zero, List.set_cons_succ, i64_w, i32_w]
              rfl
            refine pure_ (i := 7) (N := some 146) (v := ?_) (a' := ?_) #[true, true, true, true, true, true, true, true, false, true, true, false, false, false] rfl rfl (by kernel_rfl) (fun _ _ _ h => h) (Or.inl ⟨by rfl, ?_⟩) ?_ ?_
            rotate_left
            · intro w'
              go_simp
              with_reducible rfl
            rotate_left
            · simp only [Act.put, List.setIfInBounds_toArray, List.set_cons_zero, List.set_cons_succ, i64_w, i32_w]
              rfl
            refine take_ (i := 8) (N := some 147) (v := ?_) (a' := ?_) #[true, true, true, true, true, true, true, true, true, true, true, false, false, false] rfl rfl (by kernel_rfl) (fun _ _ _ h => h) (Or.inl ⟨by rfl, ?_⟩) hHeld ?_ ?_
            rotate_left
            · rintro w' ⟨s0, s1, s2, s3⟩
              go_simp
              with_reducible rfl
            rotate_left
            · simp only [Act.put, List.setIfInBounds_toArray, List.set_cons_zero, List.set_cons_succ, i64_w, i32_w]
              rfl
            refine take_ (i := 11) (N := some 150) (v := ?_) (a' := ?_) #[true, true, true, true, true, true, true, true, true, true, true, true, false, false] rfl rfl (by kernel_rfl) (fun _ _ _ h => h) (Or.inl ⟨by rfl, ?_⟩) hHeld ?_ ?_
            rotate_left
            · rintro w' ⟨s0, s1, s2, s3⟩
              go_simp
              with_reducible rfl
            rotate_left
            · simp only [Act.put, List.setIfInBounds_toArray, List.set_cons_zero, List.set_cons_succ, i64_w, i32_w]
              rfl
            refine pure_ (i := 12) (N := some 151) (v := ?_) (a' := ?_) #[true, true, true, true, true, true, true, true, true, true, true, true, true, false] rfl rfl (by kernel_rfl) (fun _ _ _ h => h) (Or.inl ⟨by rfl, ?_⟩) ?_ ?_
            rotate_left
            · intro w'
              go_simp
              with_reducible rfl
            rotate_left
            · simp only [Act.put, List.setIfInBounds_toArray, List.set_cons_zero, List.set_cons_succ, i64_w, i32_w]
              rfl
            refine pure_ (i := 13) (N := some 152) (v := ?_) (a' := ?_) #[true, true, true, true, true, true, true, true, true, true, true, true, true, true] rfl rfl (by kernel_rfl) (fun _ _ _ h => h) (Or.inl ⟨by rfl, ?_⟩) ?_ ?_
            rotate_left
            · intro w'
              go_simp
              with_reducible rfl
            rotate_left
            · simp only [Act.put, List.setIfInBounds_toArray, List.set_cons_zero, List.set_cons_succ, i64_w, i32_w]
              rfl
            refine done_ (by kernel_rfl) ?_
            go_wp2_with fail
            go_roundg (OL.length - i)
            case measure => have := NK.out.2; have := HI.out; omega
            case rel => exact ⟨i + 1, h, hb, some ed2, c, B, d, by (first | rw [b1] | rfl), ⟨by have := NK.out; omega⟩, ⟨by have := HE.out; have := HH.out; omega⟩, ⟨below_drew B16.out⟩, ⟨blk_drew M16.out⟩, ⟨X16.out.drew⟩, ⟨Kd.R_below O16.out (below_drew (Below.refl _ _))⟩⟩
          have d1 : decide ((j : Int) < (PL.length : Int)) = true := decide_eq_true (by omega)
          have d2 : decide (j < PL.length) = true := decide_eq_true hj
          have d3 : (j < PL.length) = True := eq_true hj
          have j0 : (0 : Int) ≤ (j : Int) := by omega
          have j1 : (j : Int) < (PL.length : Int) := by omega
          have NJ := Aside0.mk (nkC hj HJ.out)
          have b2 : wrap64 ((j : Int) + 1) = ((j + 1 : Nat) : Int) := pl_wrap hj HPL.out H20.out.2.1
          obtain ⟨num, m, hel, hcase⟩ := packB_get (show j < (packL 1 ((0 : Nat) : Int) ⟨l1, (hb : Int)⟩ ha).length from HPL.out ▸ hj)
          rw [← HPL.out] at hel
          obtain ⟨A_, c_, e_2, -, hrd⟩ := OwnRow.reads (Kd.R_bound P15.out).2
          injection e_2 with e_2 e2_ e3_
          subst e_2
          clear e2_ e3_
          obtain ⟨pd, cc, ea, -, hK, hcell⟩ := ReadsRow.get_ hrd z37 (j : Int) j0 j1
          subst ea
          rw [Int.toNat_natCast, hel] at hK
          rw [Int.toNat_natCast] at hcell
          obtain ⟨v13, v14, ec, g13, g14⟩ := k37_openM hK
          dsimp only at ec g13 g14
          subst ec
          obtain ⟨A13, c13, e13⟩ := Kd.R_slice g13
          obtain ⟨A14, c14, e14⟩ := Kd.R_slice g14
          subst e13
          subst e14
          have x0 : w15.cell? (pd.add (j * 15)) = some (.int .i64 1) := hcell 0 _ rfl; have x1 : w15.cell? ⟨(pd.add (j * 15)).block, (pd.add (j * 15)).off + 1, none⟩ = some (.int .i64 0) := (by rw [← add_field _ _ 1 (by omega)]; exact hcell 1 _ rfl); have x2 : w15.cell? ⟨(pd.add (j * 15)).block, (pd.add (j * 15)).off + 2, none⟩ = some (.int .i64 num) := (by rw [← add_field _ _ 2 (by omega)]; exact hcell 2 _ rfl); have x3 : w15.cell? ⟨(pd.add (j * 15)).block, (pd.add (j * 15)).off + 3, none⟩ = some (.int .i64 (hb : Int)) := (by rw [← add_field _ _ 3 (by omega)]; exact hcell 3 _ rfl); have x4 : w15.cell? ⟨(pd.add (j * 15)).block, (pd.add (j * 15)).off + 4, none⟩ = some (.int .i64 m.f0) := (by rw [← add_field _ _ 4 (by omega)]; exact hcell 4 _ rfl); have x5 : w15.cell? ⟨(pd.add (j * 15)).block, (pd.add (j * 15)).off + 5, none⟩ = some (.int .i64 m.f1.f0) := (by rw [← add_field _ _ 5 (by omega)]; exact hcell 5 _ rfl); have x6 : w15.cell? ⟨(pd.add (j * 15)).block, (pd.add (j * 15)).off + 6, none⟩ = some (.int .i64 m.f1.f1) := (by rw [← add_field _ _ 6 (by omega)]; exact hcell 6 _ rfl); have x7 : w15.cell? ⟨(pd.add (j * 15)).block, (pd.add (j * 15)).off + 7, none⟩ = some (.int .i64 m.f2) := (by rw [← add_field _ _ 7 (by omega)]; exact hcell 7 _ rfl); have x8 : w15.cell? ⟨(pd.add (j * 15)).block, (pd.add (j * 15)).off + 8, none⟩ = some (.int .i64 m.f3) := (by rw [← add_field _ _ 8 (by omega)]; exact hcell 8 _ rfl); have x9 : w15.cell? ⟨(pd.add (j * 15)).block, (pd.add (j * 15)).off + 9, none⟩ = some (.int .i64 m.f4) := (by rw [← add_field _ _ 9 (by omega)]; exact hcell 9 _ rfl); have x10 : w15.cell? ⟨(pd.add (j * 15)).block, (pd.add (j * 15)).off + 10, none⟩ = some (.int .i64 m.f5) := (by rw [← add_field _ _ 10 (by omega)]; exact hcell 10 _ rfl); have x11 : w15.cell? ⟨(pd.add (j * 15)).block, (pd.add (j * 15)).off + 11, none⟩ = some (.int .i64 m.f6) := (by rw [← add_field _ _ 11 (by omega)]; exact hcell 11 _ rfl); have x12 : w15.cell? ⟨(pd.add (j * 15)).block, (pd.add (j * 15)).off + 12, none⟩ = some (.bool m.f7) := (by rw [← add_field _ _ 12 (by omega)]; exact hcell 12 _ rfl); have x13 : w15.cell? ⟨(pd.add (j * 15)).block, (pd.add (j * 15)).off + 13, none⟩ = some (.slice A13 m.f8.length c13) := (by rw [← add_field _ _ 13 (by omega)]; exact hcell 13 _ rfl); have x14 : w15.cell? ⟨(pd.add (j * 15)).block, (pd.add (j * 15)).off + 14, none⟩ = some (.slice A14 m.f9.length c14) := (by rw [← add_field _ _ 14 (by omega)]; exact hcell 14 _ rfl)
          have U15 := Aside0.mk (Kd.R_mono (ok' := fun k => k ≠ g7) (Kd.R_bound g13) (fun k hk => hk.1.1.1)); have V15 := Aside0.mk (Kd.R_mono (ok' := fun k => k ≠ g7) (Kd.R_bound g14) (fun k hk => hk.1.1.1))
          have q4 := eq_true j0; have q5 := eq_true j1; have q6 : decide ((0 : Int) ≤ (j : Int)) = true := decide_eq_true j0
          have HC := Aside0.mk hcase
          clear hj hel hrd hK hcell g13 g14 j0 j1 hcase
          go_upto_region 27 with (first | ((with_reducible refine gate_dst (N := 16) rfl ?_); refine box_event ?hg (N := 16) ?hd (cs := #[.int .i64 0, .int .i64 0, .int .i64 0, .int .i64 0, .int .i64 0, .int .i64 0, .int .i64 0, .int .i64 0, .int .i64 0, .int .i64 0, .int .i64 0, .int .i64 0, .bool false, .slice none 0 0, .slice none 0 0]) (t := 37) ?hr ?_; (case hd => rfl); (case hg => rfl); (case hr => first | (go_simp; done) | (go_simp; rfl)); intro g16 hg w16m hbox hb; have ZB := Aside0.mk hb; have ZX := Aside0.mk hbox; have N16g := Aside0.mk (show w15.heap.size ≤ g16 from by rw [hg]; exact Nat.le_refl _); have m_zc0 : w16m.cell? ⟨g16, 0, none⟩ = some (.int .i64 0) := (blk_cell ZX.out 0).trans rfl; have m_zf0 := blk_frozen ZX.out 0; have m_zc1 : w16m.cell? ⟨g16, 1, none⟩ = some (.int .i64 0) := (blk_cell ZX.out 1).trans rfl; have m_zf1 := blk_frozen ZX.out 1; have m_zc2 : w16m.cell? ⟨g16, 2, none⟩ = some (.int .i64 0) := (blk_cell ZX.out 2).trans rfl; have m_zf2 := blk_frozen ZX.out 2; have m_zc3 : w16m.cell? ⟨g16, 3, none⟩ = some (.int .i64 0) := (blk_cell ZX.out 3).trans rfl; have m_zf3 := blk_frozen ZX.out 3; have m_zc4 : w16m.cell? ⟨g16, 4, none⟩ = some (.int .i64 0) := (blk_cell ZX.out 4).trans rfl; have m_zf4 := blk_frozen ZX.out 4; have m_zc5 : w16m.cell? ⟨g16, 5, none⟩ = some (.int .i64 0) := (blk_cell ZX.out 5).trans rfl; have m_zf5 := blk_frozen ZX.out 5; have m_zc6 : w16m.cell? ⟨g16, 6, none⟩ = some (.int .i64 0) := (blk_cell ZX.out 6).trans rfl; have m_zf6 := blk_frozen ZX.out 6; have m_zc7 : w16m.cell? ⟨g16, 7, none⟩ = some (.int .i64 0) := (blk_cell ZX.out 7).trans rfl; have m_zf7 := blk_frozen ZX.out 7; have m_zc8 : w16m.cell? ⟨g16, 8, none⟩ = some (.int .i64 0) := (blk_cell ZX.out 8).trans rfl; have m_zf8 := blk_frozen ZX.out 8; have m_zc9 : w16m.cell? ⟨g16, 9, none⟩ = some (.int .i64 0) := (blk_cell ZX.out 9).trans rfl; have m_zf9 := blk_frozen ZX.out 9; have m_zc10 : w16m.cell? ⟨g16, 10, none⟩ = some (.int .i64 0) := (blk_cell ZX.out 10).trans rfl; have m_zf10 := blk_frozen ZX.out 10; have m_zc11 : w16m.cell? ⟨g16, 11, none⟩ = some (.int .i64 0) := (blk_cell ZX.out 11).trans rfl; have m_zf11 := blk_frozen ZX.out 11; have m_zc12 : w16m.cell? ⟨g16, 12, none⟩ = some (.bool false) := (blk_cell ZX.out 12).trans rfl; have m_zf12 := blk_frozen ZX.out 12; have m_zc13 : w16m.cell? ⟨g16, 13, none⟩ = some (.slice none 0 0) := (blk_cell ZX.out 13).trans rfl; have m_zf13 := blk_frozen ZX.out 13; have m_zc14 : w16m.cell? ⟨g16, 14, none⟩ = some (.slice none 0 0) := (blk_cell ZX.out 14).trans rfl; have m_zf14 := blk_frozen ZX.out 14; clear hb hg hbox))
          have NB16 := Aside0.mk (below_setB (below_setB (below_setB (below_setB (below_setB (below_setB (below_setB (below_setB (below_setB (below_setB (below_setB (below_setB (below_setB (below_setB (below_setB ZB.out (p := ⟨g16, 0, none⟩) N16g.out (.int .i64 1)) (p := ⟨g16, 1, none⟩) N16g.out (.int .i64 0)) (p := ⟨g16, 2, none⟩) N16g.out (.int .i64 num)) (p := ⟨g16, 3, none⟩) N16g.out (.int .i64 (hb : Int))) (p := ⟨g16, 4, none⟩) N16g.out (.int .i64 m.f0)) (p := ⟨g16, 5, none⟩) N16g.out (.int .i64 m.f1.f0)) (p := ⟨g16, 6, none⟩) N16g.out (.int .i64 m.f1.f1)) (p := ⟨g16, 7, none⟩) N16g.out (.int .i64 m.f2)) (p := ⟨g16, 8, none⟩) N16g.out (.int .i64 m.f3)) (p := ⟨g16, 9, none⟩) N16g.out (.int .i64 m.f4)) (p := ⟨g16, 10, none⟩) N16g.out (.int .i64 m.f5)) (p := ⟨g16, 11, none⟩) N16g.out (.int .i64 m.f6)) (p := ⟨g16, 12, none⟩) N16g.out (.bool m.f7)) (p := ⟨g16, 13, none⟩) N16g.out (.slice A13 m.f8.length c13)) (p := ⟨g16, 14, none⟩) N16g.out (.slice A14 m.f9.length c14)); have N16 := Aside0.mk (blk_put (blk_put (blk_put (blk_put (blk_put (blk_put (blk_put (blk_put (blk_put (blk_put (blk_put (blk_put (blk_put (blk_put (blk_put ZX.out 0 (.int .i64 1) (cs' := #[.int .i64 1, .int .i64 0, .int .i64 0, .int .i64 0, .int .i64 0, .int .i64 0, .int .i64 0, .int .i64 0, .int .i64 0, .int .i64 0, .int .i64 0, .int .i64 0, .bool false, .slice none 0 0, .slice none 0 0]) rfl) 1 (.int .i64 0) (cs' := #[.int .i64 1, .int .i64 0, .int .i64 0, .int .i64 0, .int .i64 0, .int .i64 0, .int .i64 0, .int .i64 0, .int .i64 0, .int .i64 0, .int .i64 0, .int .i64 0, .bool false, .slice none 0 0, .slice none 0 0]) rfl) 2 (.int .i64 num) (cs' := #[.int .i64 1, .int .i64 0, .int .i64 num, .int .i64 0, .int .i64 0, .int .i64 0, .int .i64 0, .int .i64 0, .int .i64 0, .int .i64 0, .int .i64 0, .int .i64 0, .bool false, .slice none 0 0, .slice none 0 0]) rfl) 3 (.int .i64 (hb : Int)) (cs' := #[.int .i64 1, .int .i64 0, .int .i64 num, .int .i64 (hb : Int), .int .i64 0, .int .i64 0, .int .i64 0, .int .i64 0, .int .i64 0, .int .i64 0, .int .i64 0, .int .i64 0, .bool false, .slice none 0 0, .slice none 0 0]) rfl) 4 (.int .i64 m.f0) (cs' := #[.int .i64 1, .int .i64 0, .int .i64 num, .int .i64 (hb : Int), .int .i64 m.f0, .int .i64 0, .int .i64 0, .int .i64 0, .int .i64 0, .int .i64 0, .int .i64 0, .int .i64 0, .bool false, .slice none 0 0, .slice none 0 0]) rfl) 5 (.int .i64 m.f1.f0) (cs' := #[.int .i64 1, .int .i64 0, .int .i64 num, .int .i64 (hb : Int), .int .i64 m.f0, .int .i64 m.f1.f0, .int .i64 0, .int .i64 0, .int .i64 0, .int .i64 0, .int .i64 0, .int .i64 0, .bool false, .slice none 0 0, .slice none 0 0]) rfl) 6 (.int .i64 m.f1.f1) (cs' := #[.int .i64 1, .int .i64 0, .int .i64 num, .int .i64 (hb : Int), .int .i64 m.f0, .int .i64 m.f1.f0, .int .i64 m.f1.f1, .int .i64 0, .int .i64 0, .int .i64 0, .int .i64 0, .int .i64 0, .bool false, .slice none 0 0, .slice none 0 0]) rfl) 7 (.int .i64 m.f2) (cs' := #[.int .i64 1, .int .i64 0, .int .i64 num, .int .i64 (hb : Int), .int .i64 m.f0, .int .i64 m.f1.f0, .int .i64 m.f1.f1, .int .i64 m.f2, .int .i64 0, .int .i64 0, .int .i64 0, .int .i64 0, .bool false, .slice none 0 0, .slice none 0 0]) rfl) 8 (.int .i64 m.f3) (cs' := #[.int .i64 1, .int .i64 0, .int .i64 num, .int .i64 (hb : Int), .int .i64 m.f0, .int .i64 m.f1.f0, .int .i64 m.f1.f1, .int .i64 m.f2, .int .i64 m.f3, .int .i64 0, .int .i64 0, .int .i64 0, .bool false, .slice none 0 0, .slice none 0 0]) rfl) 9 (.int .i64 m.f4) (cs' := #[.int .i64 1, .int .i64 0, .int .i64 num, .int .i64 (hb : Int), .int .i64 m.f0, .int .i64 m.f1.f0, .int .i64 m.f1.f1, .int .i64 m.f2, .int .i64 m.f3, .int .i64 m.f4, .int .i64 0, .int .i64 0, .bool false, .slice none 0 0, .slice none 0 0]) rfl) 10 (.int .i64 m.f5) (cs' := #[.int .i64 1, .int .i64 0, .int .i64 num, .int .i64 (hb : Int), .int .i64 m.f0, .int .i64 m.f1.f0, .int .i64 m.f1.f1, .int .i64 m.f2, .int .i64 m.f3, .int .i64 m.f4, .int .i64 m.f5, .int .i64 0, .bool false, .slice none 0 0, .slice none 0 0]) rfl) 11 (.int .i64 m.f6) (cs' := #[.int .i64 1, .int .i64 0, .int .i64 num, .int .i64 (hb : Int), .int .i64 m.f0, .int .i64 m.f1.f0, .int .i64 m.f1.f1, .int .i64 m.f2, .int .i64 m.f3, .int .i64 m.f4, .int .i64 m.f5, .int .i64 m.f6, .bool false, .slice none 0 0, .slice none 0 0]) rfl) 12 (.bool m.f7) (cs' := #[.int .i64 1, .int .i64 0, .int .i64 num, .int .i64 (hb : Int), .int .i64 m.f0, .int .i64 m.f1.f0, .int .i64 m.f1.f1, .int .i64 m.f2, .int .i64 m.f3, .int .i64 m.f4, .int .i64 m.f5, .int .i64 m.f6, .bool m.f7, .slice none 0 0, .slice none 0 0]) rfl) 13 (.slice A13 m.f8.length c13) (cs' := #[.int .i64 1, .int .i64 0, .int .i64 num, .int .i64 (hb : Int), .int .i64 m.f0, .int .i64 m.f1.f0, .int .i64 m.f1.f1, .int .i64 m.f2, .int .i64 m.f3, .int .i64 m.f4, .int .i64 m.f5, .int .i64 m.f6, .bool m.f7, .slice A13 m.f8.length c13, .slice none 0 0]) rfl) 14 (.slice A14 m.f9.length c14) (cs' := #[.int .i64 1, .int .i64 0, .int .i64 num, .int .i64 (hb : Int), .int .i64 m.f0, .int .i64 m.f1.f0, .int .i64 m.f1.f1, .int .i64 m.f2, .int .i64 m.f3, .int .i64 m.f4, .int .i64 m.f5, .int .i64 m.f6, .bool m.f7, .slice A13 m.f8.length c13, .slice A14 m.f9.length c14]) rfl); clear ZB ZX m_zc0 m_zf0 m_zc1 m_zf1 m_zc2 m_zf2 m_zc3 m_zf3 m_zc4 m_zf4 m_zc5 m_zf5 m_zc6 m_zf6 m_zc7 m_zf7 m_zc8 m_zf8 m_zc9 m_zf9 m_zc10 m_zf10 m_zc11 m_zf11 m_zc12 m_zf12 m_zc13 m_zf13 m_zc14 m_zf14; generalize (((((((((((((((w16m.setCell ⟨g16, 0, none⟩ (.int .i64 1)).setCell ⟨g16, 1, none⟩ (.int .i64 0)).setCell ⟨g16, 2, none⟩ (.int .i64 num)).setCell ⟨g16, 3, none⟩ (.int .i64 (hb : Int))).setCell ⟨g16, 4, none⟩ (.int .i64 m.f0)).setCell ⟨g16, 5, none⟩ (.int .i64 m.f1.f0)).setCell ⟨g16, 6, none⟩ (.int .i64 m.f1.f1)).setCell ⟨g16, 7, none⟩ (.int .i64 m.f2)).setCell ⟨g16, 8, none⟩ (.int .i64 m.f3)).setCell ⟨g16, 9, none⟩ (.int .i64 m.f4)).setCell ⟨g16, 10, none⟩ (.int .i64 m.f5)).setCell ⟨g16, 11, none⟩ (.int .i64 m.f6)).setCell ⟨g16, 12, none⟩ (.bool m.f7)).setCell ⟨g16, 13, none⟩ (.slice A13 m.f8.length c13)).setCell ⟨g16, 14, none⟩ (.slice A14 m.f9.length c14)) = w16 at NB16 N16 ⊢; have B16 := Aside0.mk (below_step B15.out NB16.out); have X16 := Aside0.mk (X15.out.below NB16.out); have M16 := Aside0.mk (blk_below M15.out NB16.out); have O16 := Aside0.mk (Kd.R_below O15.out NB16.out); have P16 := Aside0.mk (Kd.R_below P15.out NB16.out); have U16 := Aside0.mk (Kd.R_below U15.out NB16.out); have V16 := Aside0.mk (Kd.R_below V15.out NB16.out); have G16 := Aside0.mk (show g7 < g16 from Nat.lt_of_lt_of_le (blk_lt X15.out.blk) N16g.out)
          clear x0 x1 x2 x3 x4 x5 x6 x7 x8 x9 x10 x11 x12 x13 x14 P15 B15 M15 X15 O15 U15 V15 NB16
          have hcase := HC.out
          clear HC
          rcases hcase with ⟨hn, hlow⟩ | ⟨hn, hhi, hlt, hm⟩
          · have NX := Aside0.mk (show num < 1 by omega); have HLOW := Aside0.mk hlow; clear hn hlow
            refine start_ (n := 13) (S := fun w' => w'.cell? ⟨g7, 0, none⟩ = some (.int .i64 0) ∧ w'.cell? ⟨g7, 1, none⟩ = some (.slice A 2 c) ∧ w'.cell? ⟨g16, 2, none⟩ = some (.int .i64 num)) (ds := [7, 11, 12]) #[false, false, false, false, false, false, false, false, false, false, false, false, false] (by kernel_rfl) rfl rfl ⟨(blk_cell (blk_drew X16.out.blk) 0).trans rfl, (blk_cell (blk_drew X16.out.blk) 1).trans rfl, (blk_cell (blk_drew N16.out) 2).trans rfl⟩ (fun hHeld => ?_)
            refine pure_ (i := 0) (N := some 103) (v := ?_) (a' := ?_) #[true, false, false, false, false, false, false, false, false, false, false, false, false] rfl rfl (by kernel_rfl) (fun _ _ _ h => h) (Or.inl ⟨by rfl, ?_⟩) ?_ ?_
            rotate_left
            · intro w'
              go_simp
              with_reducible rfl
            rotate_left
            · simp only [Act.put, List.setIfInBounds_toArray, List.set_cons_zero, List.set_cons_succ, i64_w, i32_w]
              rfl
            refine pure_ (i := 1) (N := some 104) (v := ?_) (a' := ?_) #[true, true, false, false, false, false, false, false, false, false, false, false, false] rfl rfl (by kernel_rfl) (fun _ _ _ h => h) (Or.inl ⟨by rfl, ?_⟩) ?_ ?_
            rotate_left
            · intro w'
              go_simp
              with_reducible rfl
            rotate_left
            · simp only [Act.put, List.setIfInBounds_toArray, List.set_cons_zero, List.set_cons_succ, i64_w, i32_w]
              rfl
            refine pure_ (i := 2) (N := some 105) (v := ?_) (a' := ?_) #[true, true, true, false, false, false, false, false, false, false, false, false, false] rfl rfl (by kernel_rfl) (fun _ _ _ h => h) (Or.inl ⟨by rfl, ?_⟩) ?_ ?_
            rotate_left
            · intro w'
              go_simp
              with_reducible rfl
            rotate_left
            · simp only [Act.put, List.setIfInBounds_toArray, List.set_cons_zero, List.set_cons_succ, i64_w, i32_w]
              rfl
            refine pure_ (i := 4) (N := some 107) (v := ?_) (a' := ?_) #[true, true, true, false, true, false, false, false, false, false, false, false, false] rfl rfl (by kernel_rfl) (fun _ _ _ h => h) (Or.inl ⟨by rfl, ?_⟩) ?_ ?_
            rotate_left
            · intro w'
              go_simp
              with_reducible rfl
            rotate_left
            · simp only [Act.put, List.setIfInBounds_toArray, List.set_cons_zero, List.set_cons_succ, i64_w, i32_w]
              rfl
            refine pure_ (i := 5) (N := some 108) (v := ?_) (a' := ?_) #[true, true, true, false, true, true, false, false, false, false, false, false, false] rfl rfl (by kernel_rfl) (fun _ _ _ h => h) (Or.inl ⟨by rfl, ?_⟩) ?_ ?_
            rotate_left
            · intro w'
              go_simp
              with_reducible rfl
            rotate_left
            · simp only [Act.put, List.setIfInBounds_toArray, List.set_cons_zero, List.set_cons_succ, i64_w, i32_w]
              rfl
            refine take_ (i := 3) (N := some 106) (v := ?_) (a' := ?_) #[true, true, true, true, true, true, false, false, false, false, false, false, false] rfl rfl (by kernel_rfl) (fun _ _ _ h => h) (Or.inl ⟨by rfl, ?_⟩) hHeld ?_ ?_
            rotate_left
            · rintro w' ⟨s0, s1, s2⟩
              go_simp
              with_reducible rfl
            rotate_left
            · simp only [Act.put, List.setIfInBounds_toArray, List.set_cons_zero, List.set_cons_succ, i64_w, i32_w]
              rfl
            refine take_ (i := 6) (N := some 109) (v := ?_) (a' := ?_) #[true, true, true, true, true, true, true, false, false, false, false, false, false] rfl rfl (by kernel_rfl) (fun _ _ _ h => h) (Or.inl ⟨by rfl, ?_⟩) hHeld ?_ ?_
            rotate_left
            · rintro w' ⟨s0, s1, s2⟩
              go_simp
              with_reducible rfl
            rotate_left
            · simp only [Act.put, List.setIfInBounds_toArray, List.set_cons_zero, List.set_cons_succ, i64_w, i32_w]
              rfl
            refine last_ (i := 7) (N := some 110) #[true, true, true, true, true, true, true, true, false, false, false, false, false] rfl rfl (by kernel_rfl) (by decide) (fun K hK => ?_)
            refine goes_ Try.func22 (by kernel_rfl) rfl #[.agg #[.int .i64 0, .slice A 2 c], .int .i64 1, .int .i64 num] (by rfl) rfl rfl (by simp only [List.map_toArray, List.map_cons, List.map_nil]; rfl) ?_
            have CON := links_Next_low (t := 1) (num := num) (l := s0 l0 h) (w := w16.drew) (s0_two _ _) (Kd.R_reads' X16.out.drew.R0).2.2 (Kd.R_reads' X16.out.drew.R0).2.1 (s0_lt _ _) ne_10 NX.out; have CON2 : Calls Try.prog 22 #[.agg #[.int .i64 0, .slice A 2 c], .int .i64 1, .int .i64 num] w16.drew _ := CON; clear CON
            with_reducible refine (CON2).mono ?_
            rintro x w17 ⟨rfl, hbW⟩
            refine ⟨_, rfl, ?_⟩
            clear CON2
            have B17 := Aside0.mk (below_step (below_drew B16.out) hbW)
            have X17 := Aside0.mk (X16.out.drew.below hbW)
            have M17 := Aside0.mk (blk_below (blk_drew M16.out) hbW)
            have O17 := Aside0.mk (Kd.R_below (Kd.R_below O16.out (below_drew (Below.refl _ _))) hbW)
            have P17 := Aside0.mk (Kd.R_below (Kd.R_below P16.out (below_drew (Below.refl _ _))) hbW)
            clear hbW
            refine hK.out _ _ ?_
            clear hK K
            refine norm_ (a' := ?_) ?_ ?_
            rotate_left
            · show Act.put _ (some 110) _ = _
              simp only [Act.put, List.setIfInBounds_toArray, List.set_cons_zero, List.set_cons_succ, i64_w, i32_w]
              rfl
            refine pure_ (i := 8) (N := some 102) (v := ?_) (a' := ?_) #[true, true, true, true, true, true, true, true, true, false, false, false, false] rfl rfl (by kernel_rfl) (fun _ _ _ h => h) (Or.inl ⟨by rfl, ?_⟩) ?_ ?_
            rotate_left
            · intro w'
              go_simp
              with_reducible rfl
            rotate_left
            · simp only [Act.put, List.setIfInBounds_toArray, List.set_cons_zero, List.set_cons_succ, i64_w, i32_w]
              rfl
            refine pure_ (i := 9) (N := some 111) (v := ?_) (a' := ?_) #[true, true, true, true, true, true, true, true, true, true, false, false, false] rfl rfl (by kernel_rfl) (fun _ _ _ h => h) (Or.inl ⟨by rfl, ?_⟩) ?_ ?_
            rotate_left
            · intro w'
              go_simp
              with_reducible rfl
            rotate_left
            · simp only [Act.put, List.setIfInBounds_toArray, List.set_cons_zero, List.set_cons_succ, i64_w, i32_w]
              rfl
            refine pure_ (i := 10) (N := some 112) (v := ?_) (a' := ?_) #[true, true, true, true, true, true, true, true, true, true, true, false, false] rfl rfl (by kernel_rfl) (fun _ _ _ h => h) (Or.inl ⟨by rfl, ?_⟩) ?_ ?_
            rotate_left
            · intro w'
              go_simp
              with_reducible rfl
            rotate_left
            · simp only [Act.put, List.setIfInBounds_toArray, List.set_cons_zero, List.set_cons_succ, i64_w, i32_w]
              rfl
            refine pure_ (i := 11) (N := some 17) (v := ?_) (a' := ?_) #[true, true, true, true, true, true, true, true, true, true, true, true, false] rfl rfl (by kernel_rfl) (fun _ _ _ h => h) (Or.inl ⟨by rfl, ?_⟩) ?_ ?_
            rotate_left
            · intro w'
              go_simp
              with_reducible rfl
            rotate_left
            · simp only [Act.put, List.setIfInBounds_toArray, List.set_cons_zero, List.set_cons_succ, i64_w, i32_w]
              rfl
            refine pure_ (i := 12) (N := some 18) (v := ?_) (a' := ?_) #[true, true, true, true, true, true, true, true, true, true, true, true, true] rfl rfl (by kernel_rfl) (fun _ _ _ h => h) (Or.inl ⟨by rfl, ?_⟩) ?_ ?_
            rotate_left
            · intro w'
              go_simp
              with_reducible rfl
            rotate_left
            · simp only [Act.put, List.setIfInBounds_toArray, List.set_cons_zero, List.set_cons_succ, i64_w, i32_w]
              rfl
            refine done_ (by kernel_rfl) ?_
            go_wp2_with fail
            go_roundg (gk - 1)
            case measure => have := NJ.out.2; omega
            case rel => exact ⟨j + 1, h, A, c, B, d, by (first | rw [b2] | rfl), ⟨NJ.out.1⟩, ⟨by have := Hh.out; rw [if_neg HLOW.out] at this ⊢; exact this⟩, B17, M17, X17, O17, P17⟩
          have hh : h = ha + j := by have := Hh.out; rw [if_pos hhi] at this; exact this
          rw [← hh] at hn hlt hm
          have HM := Aside0.mk hm; have HLT := Aside0.mk hlt; have HN := Aside0.mk hn; have HHI := Aside0.mk hhi; have HHJ := Aside0.mk hh
          have NX1 := Aside0.mk (show 1 ≤ num from by rw [hn]; exact num_lo h); have NX2 := Aside0.mk (show num ≤ 9223372036854775807 from by rw [hn]; exact num_hi H20.out.2.1 hlt)
          clear hh hn hlt hm hhi
          refine start_ (n := 13) (S := fun w' => w'.cell? ⟨g7, 0, none⟩ = some (.int .i64 0) ∧ w'.cell? ⟨g7, 1, none⟩ = some (.slice A 2 c) ∧ w'.cell? ⟨g16, 2, none⟩ = some (.int .i64 num)) (ds := [7, 11, 12]) #[false, false, false, false, false, false, false, false, false, false, false, false, false] (by kernel_rfl) rfl rfl ⟨(blk_cell (blk_drew X16.out.blk) 0).trans rfl, (blk_cell (blk_drew X16.out.blk) 1).trans rfl, (blk_cell (blk_drew N16.out) 2).trans rfl⟩ (fun hHeld => ?_)
          refine pure_ (i := 0) (N := some 103) (v := ?_) (a' := ?_) #[true, false, false, false, false, false, false, false, false, false, false, false, false] rfl rfl (by kernel_rfl) (fun _ _ _ h => h) (Or.inl ⟨by rfl, ?_⟩) ?_ ?_
          rotate_left
          · intro w'
            go_simp
            with_reducible rfl
          rotate_left
          · simp only [Act.put, List.setIfInBounds_toArray, List.set_cons_zero, List.set_cons_succ, i64_w, i32_w]
            rfl
          refine pure_ (i := 1) (N := some 104) (v := ?_) (a' := ?_) #[true, true, false, false, false, false, false, false, false, false, false, false, false] rfl rfl (by kernel_rfl) (fun _ _ _ h => h) (Or.inl ⟨by rfl, ?_⟩) ?_ ?_
          rotate_left
          · intro w'
            go_simp
            with_reducible rfl
          rotate_left
          · simp only [Act.put, List.setIfInBounds_toArray, List.set_cons_zero, List.set_cons_succ, i64_w, i32_w]
            rfl
          refine pure_ (i := 2) (N := some 105) (v := ?_) (a' := ?_) #[true, true, true, false, false, false, false, false, false, false, false, false, false] rfl rfl (by kernel_rfl) (fun _ _ _ h => h) (Or.inl ⟨by rfl, ?_⟩) ?_ ?_
          rotate_left
          · intro w'
            go_simp
            with_reducible rfl
          rotate_left
          · simp only [Act.put, List.setIfInBounds_toArray, List.set_cons_zero, List.set_cons_succ, i64_w, i32_w]
            rfl
          refine pure_ (i := 4) (N := some 107) (v := ?_) (a' := ?_) #[true, true, true, false, true, false, false, false, false, false, false, false, false] rfl rfl (by kernel_rfl) (fun _ _ _ h => h) (Or.inl ⟨by rfl, ?_⟩) ?_ ?_
          rotate_left
          · intro w'
            go_simp
            with_reducible rfl
          rotate_left
          · simp only [Act.put, List.setIfInBounds_toArray, List.set_cons_zero, List.set_cons_succ, i64_w, i32_w]
            rfl
          refine pure_ (i := 5) (N := some 108) (v := ?_) (a' := ?_) #[true, true, true, false, true, true, false, false, false, false, false, false, false] rfl rfl (by kernel_rfl) (fun _ _ _ h => h) (Or.inl ⟨by rfl, ?_⟩) ?_ ?_
          rotate_left
          · intro w'
            go_simp
            with_reducible rfl
          rotate_left
          · simp only [Act.put, List.setIfInBounds_toArray, List.set_cons_zero, List.set_cons_succ, i64_w, i32_w]
            rfl
          refine take_ (i := 3) (N := some 106) (v := ?_) (a' := ?_) #[true, true, true, true, true, true, false, false, false, false, false, false, false] rfl rfl (by kernel_rfl) (fun _ _ _ h => h) (Or.inl ⟨by rfl, ?_⟩) hHeld ?_ ?_
          rotate_left
          · rintro w' ⟨s0, s1, s2⟩
            go_simp
            with_reducible rfl
          rotate_left
          · simp only [Act.put, List.setIfInBounds_toArray, List.set_cons_zero, List.set_cons_succ, i64_w, i32_w]
            rfl
          refine take_ (i := 6) (N := some 109) (v := ?_) (a' := ?_) #[true, true, true, true, true, true, true, false, false, false, false, false, false] rfl rfl (by kernel_rfl) (fun _ _ _ h => h) (Or.inl ⟨by rfl, ?_⟩) hHeld ?_ ?_
          rotate_left
          · rintro w' ⟨s0, s1, s2⟩
            go_simp
            with_reducible rfl
          rotate_left
          · simp only [Act.put, List.setIfInBounds_toArray, List.set_cons_zero, List.set_cons_succ, i64_w, i32_w]
            rfl
          refine last_ (i := 7) (N := some 110) #[true, true, true, true, true, true, true, true, false, false, false, false, false] rfl rfl (by kernel_rfl) (by decide) (fun K hK => ?_)
          refine goes_ Try.func22 (by kernel_rfl) rfl #[.agg #[.int .i64 0, .slice A 2 c], .int .i64 1, .int .i64 num] (by rfl) rfl rfl (by simp only [List.map_toArray, List.map_cons, List.map_nil]; rfl) ?_
          have CON := links_Next (t := 1) (num := num) (l := s0 l0 h) (w := w16.drew) (s0_two _ _) (Kd.R_reads' X16.out.drew.R0).2.2 (Kd.R_reads' X16.out.drew.R0).2.1 (s0_lt _ _) ne_10 NX1.out NX2.out; have CON2 : Calls Try.prog 22 #[.agg #[.int .i64 0, .slice A 2 c], .int .i64 1, .int .i64 num] w16.drew _ := CON; clear CON
          with_reducible refine (CON2).mono ?_
          rintro x w17 ⟨rfl, hbW⟩
          refine ⟨_, rfl, ?_⟩
          clear CON2
          rw [show (num - 1 == (rd_T64 (s0 l0 h) ((1 : Nat) : Int)).f1) = true by rw [HN.out]; exact nx_yes0]
          have B17 := Aside0.mk (below_step (below_drew B16.out) hbW)
          have X17 := Aside0.mk (X16.out.drew.below hbW)
          have M17 := Aside0.mk (blk_below (blk_drew M16.out) hbW)
          have O17 := Aside0.mk (Kd.R_below (Kd.R_below O16.out (below_drew (Below.refl _ _))) hbW)
          have P17 := Aside0.mk (Kd.R_below (Kd.R_below P16.out (below_drew (Below.refl _ _))) hbW)
          have U17 := Aside0.mk (Kd.R_below (Kd.R_below U16.out (below_drew (Below.refl _ _))) hbW)
          have V17 := Aside0.mk (Kd.R_below (Kd.R_below V16.out (below_drew (Below.refl _ _))) hbW)
          have N17 := Aside0.mk (blk_below (blk_drew N16.out) hbW)
          clear hbW
          refine hK.out _ _ ?_
          clear hK K
          refine norm_ (a' := ?_) ?_ ?_
          rotate_left
          · show Act.put _ (some 110) _ = _
            simp only [Act.put, List.setIfInBounds_toArray, List.set_cons_zero, List.set_cons_succ, i64_w, i32_w]
            rfl
          refine pure_ (i := 8) (N := some 102) (v := ?_) (a' := ?_) #[true, true, true, true, true, true, true, true, true, false, false, false, false] rfl rfl (by kernel_rfl) (fun _ _ _ h => h) (Or.inl ⟨by rfl, ?_⟩) ?_ ?_
          rotate_left
          · intro w'
            go_simp
            with_reducible rfl
          rotate_left
          · simp only [Act.put, List.setIfInBounds_toArray, List.set_cons_zero, List.set_cons_succ, i64_w, i32_w]
            rfl
          refine pure_ (i := 9) (N := some 111) (v := ?_) (a' := ?_) #[true, true, true, true, true, true, true, true, true, true, false, false, false] rfl rfl (by kernel_rfl) (fun _ _ _ h => h) (Or.inl ⟨by rfl, ?_⟩) ?_ ?_
          rotate_left
          · intro w'
            go_simp
            with_reducible rfl
          rotate_left
          · simp only [Act.put, List.setIfInBounds_toArray, List.set_cons_zero, List.set_cons_succ, i64_w, i32_w]
            rfl
          refine pure_ (i := 10) (N := some 112) (v := ?_) (a' := ?_) #[true, true, true, true, true, true, true, true, true, true, true, false, false] rfl rfl (by kernel_rfl) (fun _ _ _ h => h) (Or.inl ⟨by rfl, ?_⟩) ?_ ?_
          rotate_left
          · intro w'
            go_simp
            with_reducible rfl
          rotate_left
          · simp only [Act.put, List.setIfInBounds_toArray, List.set_cons_zero, List.set_cons_succ, i64_w, i32_w]
            rfl
          refine pure_ (i := 11) (N := some 17) (v := ?_) (a' := ?_) #[true, true, true, true, true, true, true, true, true, true, true, true, false] rfl rfl (by kernel_rfl) (fun _ _ _ h => h) (Or.inl ⟨by rfl, ?_⟩) ?_ ?_
          rotate_left
          · intro w'
            go_simp
            with_reducible rfl
          rotate_left
          · simp only [Act.put, List.setIfInBounds_toArray, List.set_cons_zero, List.set_cons_succ, i64_w, i32_w]
            rfl
          refine pure_ (i := 12) (N := some 18) (v := ?_) (a' := ?_) #[true, true, true, true, true, true, true, true, true, true, true, true, true] rfl rfl (by kernel_rfl) (fun _ _ _ h => h) (Or.inl ⟨by rfl, ?_⟩) ?_ ?_
          rotate_left
          · intro w'
            go_simp
            with_reducible rfl
          rotate_left
          · simp only [Act.put, List.setIfInBounds_toArray, List.set_cons_zero, List.set_cons_succ, i64_w, i32_w]
            rfl
          refine done_ (by kernel_rfl) ?_
          clear B16 X16 M16 O16 P16 U16 V16 N16
          have tc0 : w17.cell? ⟨g7, 0, none⟩ = some (.int .i64 0) := (blk_cell X17.out.blk 0).trans rfl; have tf0 := blk_frozen X17.out.blk 0; have tc1 : w17.cell? ⟨g7, 1, none⟩ = some (.slice A 2 c) := (blk_cell X17.out.blk 1).trans rfl; have tf1 := blk_frozen X17.out.blk 1; have tc2 : w17.cell? ⟨g7, 2, none⟩ = some (.int .i64 1) := (blk_cell X17.out.blk 2).trans rfl; have tf2 := blk_frozen X17.out.blk 2; have tc3 : w17.cell? ⟨g7, 3, none⟩ = some (.slice B 2 d) := (blk_cell X17.out.blk 3).trans rfl; have tf3 := blk_frozen X17.out.blk 3
          go_wp2_with fail
          have CON := links_Hear (t := 1) (l := s0 l0 h) (w := w17) (s0_two _ _) B17.out.size X17.out.R0 (fit_s0h H20.out.1 H20.out.2.1 HLT.out) (s0_lt _ _) ne_10
          have CON2 : Calls Try.prog 23 #[.agg #[.int .i64 0, .slice A 2 c], .int .i64 1] w17 _ := CON
          clear CON
          refine CON2.mono ?_
          rintro x w18 ⟨A18, c18, rfl, hR, hbW⟩
          clear CON2 tc0 tf0 tc1 tf1 tc2 tf2 tc3 tf3
          rw [← s0_two] at hR
          rw [← s0_two]
          rw [s0_hear] at hR
          have R18 := Aside0.mk (okn_of hR (fun k hk => ⟨fun e => by subst e; exact absurd (blk_lt X17.out.blk) (Nat.not_lt.mpr hk), fun e => by subst e; exact absurd (blk_lt M17.out) (Nat.not_lt.mpr hk)⟩))
          have B18 := Aside0.mk (below_step B17.out hbW)
          have X18 := Aside0.mk (X17.out.below hbW)
          have M18 := Aside0.mk (blk_below M17.out hbW)
          have O18 := Aside0.mk (Kd.R_below O17.out hbW)
          have P18 := Aside0.mk (Kd.R_below P17.out hbW)
          have U18 := Aside0.mk (Kd.R_below U17.out hbW)
          have V18 := Aside0.mk (Kd.R_below V17.out hbW)
          have N18 := Aside0.mk (blk_below N17.out hbW)
          have tc0 : w18.cell? ⟨g7, 0, none⟩ = some (.int .i64 0) := (blk_cell X18.out.blk 0).trans rfl
          have tf0 := blk_frozen X18.out.blk 0
          have tc1 : w18.cell? ⟨g7, 1, none⟩ = some (.slice A 2 c) := (blk_cell X18.out.blk 1).trans rfl
          have tf1 := blk_frozen X18.out.blk 1
          have tc2 : w18.cell? ⟨g7, 2, none⟩ = some (.int .i64 1) := (blk_cell X18.out.blk 2).trans rfl
          have tf2 := blk_frozen X18.out.blk 2
          have tc3 : w18.cell? ⟨g7, 3, none⟩ = some (.slice B 2 d) := (blk_cell X18.out.blk 3).trans rfl
          have tf3 := blk_frozen X18.out.blk 3
          clear hbW hR
          dsimp only
          go_upto_region 30 with fail
          have B19 := Aside0.mk (below_setB (below_setB B18.out (p := ⟨g7, 0, none⟩) G7.out (.int .i64 0)) (p := ⟨g7, 1, none⟩) G7.out (.slice A18 2 c18))
          have M19 := Aside0.mk (blk_far (blk_far M18.out (p := ⟨g7, 0, none⟩) (Nat.ne_of_gt G78.out) (.int .i64 0)) (p := ⟨g7, 1, none⟩) (Nat.ne_of_gt G78.out) (.slice A18 2 c18))
          have N19 := Aside0.mk (blk_far (blk_far N18.out (p := ⟨g7, 0, none⟩) (Nat.ne_of_gt G16.out) (.int .i64 0)) (p := ⟨g7, 1, none⟩) (Nat.ne_of_gt G16.out) (.slice A18 2 c18))
          have X19 := Aside0.mk (show TB w.heap.size (fun k => k ≠ g7 ∧ k ≠ g8) ((w18.setCell ⟨g7, 0, none⟩ (.int .i64 0)).setCell ⟨g7, 1, none⟩ (.slice A18 2 c18)) g7 (s0 l0 (h + 1)) (s1 l1 hb) A18 c18 B d from X18.out.put0 rfl R18.out (fun k hk => hk.1))
          have O19 := Aside0.mk (Kd.R_kept O18.out (((Kept.refl w18 (fun k => k = g7)).setCell (p := ⟨g7, 0, none⟩) (.inl rfl) (.int .i64 0)).setCell (p := ⟨g7, 1, none⟩) (.inl rfl) (.slice A18 2 c18)) (fun k hk e => hk.1 e)); have P19 := Aside0.mk (Kd.R_kept P18.out (((Kept.refl w18 (fun k => k = g7)).setCell (p := ⟨g7, 0, none⟩) (.inl rfl) (.int .i64 0)).setCell (p := ⟨g7, 1, none⟩) (.inl rfl) (.slice A18 2 c18)) (fun k hk e => hk e)); have U19 := Aside0.mk (Kd.R_kept U18.out (((Kept.refl w18 (fun k => k = g7)).setCell (p := ⟨g7, 0, none⟩) (.inl rfl) (.int .i64 0)).setCell (p := ⟨g7, 1, none⟩) (.inl rfl) (.slice A18 2 c18)) (fun k hk e => hk e)); have V19 := Aside0.mk (Kd.R_kept V18.out (((Kept.refl w18 (fun k => k = g7)).setCell (p := ⟨g7, 0, none⟩) (.inl rfl) (.int .i64 0)).setCell (p := ⟨g7, 1, none⟩) (.inl rfl) (.slice A18 2 c18)) (fun k hk e => hk e))
          clear tc0 tf0 tc1 tf1 tc2 tf2 tc3 tf3 B17 X17 M17 O17 P17 U17 V17 N17 B18 X18 M18 O18 P18 U18 V18 N18 R18
          generalize ((w18.setCell ⟨g7, 0, none⟩ (.int .i64 0)).setCell ⟨g7, 1, none⟩ (.slice A18 2 c18)) = w19 at B19 M19 N19 X19 O19 P19 U19 V19 ⊢
          obtain ⟨cd, B8, D8, B9, D9, eb, x0, x1, x2, x3, x4, x5, x6, x7, x8, x9, x10, l8, g8_, l9, g9⟩ := at_T35 (Kd.C_below HR1.out B19.out) (h : Int) (by omega) (by have := HLT.out; omega)
          subst eb
          rw [← HM.out] at x0 x1 x2 x3 x4 x5 x6 x7 x8 x9 x10 l8 g8_ l9 g9
          rw [Int.toNat_natCast] at x0 x1 x2 x3 x4 x5 x6 x7 x8 x9 x10
          have EX := Aside0.mk (show _ from (⟨x0, x1, x2, x3, x4, x5, x6, x7, x8, x9, x10⟩ : (w19.cell? (cd.add (h * 11)) = some (.int .i64 m.f0)) ∧ (w19.cell? ⟨(cd.add (h * 11)).block, (cd.add (h * 11)).off + 1, none⟩ = some (.int .i64 m.f1.f0)) ∧ (w19.cell? ⟨(cd.add (h * 11)).block, (cd.add (h * 11)).off + 2, none⟩ = some (.int .i64 m.f1.f1)) ∧ (w19.cell? ⟨(cd.add (h * 11)).block, (cd.add (h * 11)).off + 3, none⟩ = some (.int .i64 m.f2)) ∧ (w19.cell? ⟨(cd.add (h * 11)).block, (cd.add (h * 11)).off + 4, none⟩ = some (.int .i64 m.f3)) ∧ (w19.cell? ⟨(cd.add (h * 11)).block, (cd.add (h * 11)).off + 5, none⟩ = some (.int .i64 m.f4)) ∧ (w19.cell? ⟨(cd.add (h * 11)).block, (cd.add (h * 11)).off + 6, none⟩ = some (.int .i64 m.f5)) ∧ (w19.cell? ⟨(cd.add (h * 11)).block, (cd.add (h * 11)).off + 7, none⟩ = some (.int .i64 m.f6)) ∧ (w19.cell? ⟨(cd.add (h * 11)).block, (cd.add (h * 11)).off + 8, none⟩ = some (.bool m.f7)) ∧ (w19.cell? ⟨(cd.add (h * 11)).block, (cd.add (h * 11)).off + 9, none⟩ = some (.slice B8 m.f8.length D8)) ∧ (w19.cell? ⟨(cd.add (h * 11)).block, (cd.add (h * 11)).off + 10, none⟩ = some (.slice B9 m.f9.length D9))))
          have G8_ := Aside0.mk (Kd.R_reads' U19.out).2.2; have G9_ := Aside0.mk (Kd.R_reads' V19.out).2.2; have H8_ := Aside0.mk g8_; have H9_ := Aside0.mk g9
          have FB := Aside0.mk (show m.f8.length ≤ 4611686018427387904 ∧ m.f9.length ≤ 4611686018427387904 by have hf := HF1.out m (by rw [HM.out, rd35_at HLT.out]; exact List.getElem_mem _); have := hf.1; have := hf.2; omega)
          have b5 : wrap64 (num - 1) = (h : Int) := by have := HN.out; have := HLT.out; have := H20.out; unfold wrap64; omega
          have q7 : ((0 : Int) ≤ (h : Int)) = True := eq_true (by omega); have q8 : ((h : Int) < (l1.length : Int)) = True := eq_true (by have := HLT.out; omega); have q9 : decide ((0 : Int) ≤ (h : Int)) = true := decide_eq_true (by omega); have q10 : decide ((h : Int) < (l1.length : Int)) = true := decide_eq_true (by have := HLT.out; omega)
          clear x0 x1 x2 x3 x4 x5 x6 x7 x8 x9 x10 l8 g8_ l9 g9
          refine start_ (n := 12) (S := fun w' => w'.cell? ⟨g16, 2, none⟩ = some (.int .i64 num) ∧ w'.cell? ⟨g16, 3, none⟩ = some (.int .i64 (hb : Int)) ∧ w'.cell? ⟨g16, 4, none⟩ = some (.int .i64 m.f0) ∧ w'.cell? ⟨g16, 5, none⟩ = some (.int .i64 m.f1.f0) ∧ w'.cell? ⟨g16, 6, none⟩ = some (.int .i64 m.f1.f1) ∧ w'.cell? ⟨g16, 7, none⟩ = some (.int .i64 m.f2) ∧ w'.cell? ⟨g16, 8, none⟩ = some (.int .i64 m.f3) ∧ w'.cell? ⟨g16, 9, none⟩ = some (.int .i64 m.f4) ∧ w'.cell? ⟨g16, 10, none⟩ = some (.int .i64 m.f5) ∧ w'.cell? ⟨g16, 11, none⟩ = some (.int .i64 m.f6) ∧ w'.cell? ⟨g16, 12, none⟩ = some (.bool m.f7) ∧ w'.cell? ⟨g16, 13, none⟩ = some (.slice A13 m.f8.length c13) ∧ w'.cell? ⟨g16, 14, none⟩ = some (.slice A14 m.f9.length c14) ∧ w'.cell? ⟨g8, 1, none⟩ = some (.slice (some cd) l1.length c1) ∧ w'.cell? (cd.add (h * 11)) = some (.int .i64 m.f0) ∧ w'.cell? ⟨(cd.add (h * 11)).block, (cd.add (h * 11)).off + 1, none⟩ = some (.int .i64 m.f1.f0) ∧ w'.cell? ⟨(cd.add (h * 11)).block, (cd.add (h * 11)).off + 2, none⟩ = some (.int .i64 m.f1.f1) ∧ w'.cell? ⟨(cd.add (h * 11)).block, (cd.add (h * 11)).off + 3, none⟩ = some (.int .i64 m.f2) ∧ w'.cell? ⟨(cd.add (h * 11)).block, (cd.add (h * 11)).off + 4, none⟩ = some (.int .i64 m.f3) ∧ w'.cell? ⟨(cd.add (h * 11)).block, (cd.add (h * 11)).off + 5, none⟩ = some (.int .i64 m.f4) ∧ w'.cell? ⟨(cd.add (h * 11)).block, (cd.add (h * 11)).off + 6, none⟩ = some (.int .i64 m.f5) ∧ w'.cell? ⟨(cd.add (h * 11)).block, (cd.add (h * 11)).off + 7, none⟩ = some (.int .i64 m.f6) ∧ w'.cell? ⟨(cd.add (h * 11)).block, (cd.add (h * 11)).off + 8, none⟩ = some (.bool m.f7) ∧ w'.cell? ⟨(cd.add (h * 11)).block, (cd.add (h * 11)).off + 9, none⟩ = some (.slice B8 m.f8.length D8) ∧ w'.cell? ⟨(cd.add (h * 11)).block, (cd.add (h * 11)).off + 10, none⟩ = some (.slice B9 m.f9.length D9)) (ds := [10]) #[false, false, false, false, false, false, false, false, false, false, false, false] (by kernel_rfl) rfl rfl ⟨(blk_cell (blk_drew N19.out) 2).trans rfl, (blk_cell (blk_drew N19.out) 3).trans rfl, (blk_cell (blk_drew N19.out) 4).trans rfl, (blk_cell (blk_drew N19.out) 5).trans rfl, (blk_cell (blk_drew N19.out) 6).trans rfl, (blk_cell (blk_drew N19.out) 7).trans rfl, (blk_cell (blk_drew N19.out) 8).trans rfl, (blk_cell (blk_drew N19.out) 9).trans rfl, (blk_cell (blk_drew N19.out) 10).trans rfl, (blk_cell (blk_drew N19.out) 11).trans rfl, (blk_cell (blk_drew N19.out) 12).trans rfl, (blk_cell (blk_drew N19.out) 13).trans rfl, (blk_cell (blk_drew N19.out) 14).trans rfl, (blk_cell (blk_drew M19.out) 1).trans rfl, cell_bel2 EX.out.1 (below_drew (Below.refl _ _)), cell_bel2 EX.out.2.1 (below_drew (Below.refl _ _)), cell_bel2 EX.out.2.2.1 (below_drew (Below.refl _ _)), cell_bel2 EX.out.2.2.2.1 (below_drew (Below.refl _ _)), cell_bel2 EX.out.2.2.2.2.1 (below_drew (Below.refl _ _)), cell_bel2 EX.out.2.2.2.2.2.1 (below_drew (Below.refl _ _)), cell_bel2 EX.out.2.2.2.2.2.2.1 (below_drew (Below.refl _ _)), cell_bel2 EX.out.2.2.2.2.2.2.2.1 (below_drew (Below.refl _ _)), cell_bel2 EX.out.2.2.2.2.2.2.2.2.1 (below_drew (Below.refl _ _)), cell_bel2 EX.out.2.2.2.2.2.2.2.2.2.1 (below_drew (Below.refl _ _)), cell_bel2 EX.out.2.2.2.2.2.2.2.2.2.2 (below_drew (Below.refl _ _))⟩ (fun hHeld => ?_)
          refine pure_ (i := 0) (N := some 126) (v := ?_) (a' := ?_) #[true, false, false, false, false, false, false, false, false, false, false, false] rfl rfl (by kernel_rfl) (fun _ _ _ h => h) (Or.inl ⟨by rfl, ?_⟩) ?_ ?_
          rotate_left
          · intro w'
            go_simp
            with_reducible rfl
          rotate_left
          · simp only [Act.put, List.setIfInBounds_toArray, List.set_cons_zero, List.set_cons_succ, i64_w, i32_w]
            rfl
          refine pure_ (i := 2) (N := some 128) (v := ?_) (a' := ?_) #[true, false, true, false, false, false, false, false, false, false, false, false] rfl rfl (by kernel_rfl) (fun _ _ _ h => h) (Or.inl ⟨by rfl, ?_⟩) ?_ ?_
          rotate_left
          · intro w'
            go_simp
            with_reducible rfl
          rotate_left
          · simp only [Act.put, List.setIfInBounds_toArray, List.set_cons_zero, List.set_cons_succ, i64_w, i32_w]
            rfl
          refine pure_ (i := 3) (N := some 129) (v := ?_) (a' := ?_) #[true, false, true, true, false, false, false, false, false, false, false, false] rfl rfl (by kernel_rfl) (fun _ _ _ h => h) (Or.inl ⟨by rfl, ?_⟩) ?_ ?_
          rotate_left
          · intro w'
            go_simp
            with_reducible rfl
          rotate_left
          · simp only [Act.put, List.setIfInBounds_toArray, List.set_cons_zero, List.set_cons_succ, i64_w, i32_w]
            rfl
          refine pure_ (i := 5) (N := some 131) (v := ?_) (a' := ?_) #[true, false, true, true, false, true, false, false, false, false, false, false] rfl rfl (by kernel_rfl) (fun _ _ _ h => h) (Or.inl ⟨by rfl, ?_⟩) ?_ ?_
          rotate_left
          · intro w'
            go_simp
            with_reducible rfl
          rotate_left
          · simp only [Act.put, List.setIfInBounds_toArray, List.set_cons_zero, List.set_cons_succ, i64_w, i32_w]
            rfl
          refine take_ (i := 1) (N := some 127) (v := ?_) (a' := ?_) #[true, true, true, true, false, true, false, false, false, false, false, false] rfl rfl (by kernel_rfl) (fun _ _ _ h => h) (Or.inl ⟨by rfl, ?_⟩) hHeld ?_ ?_
          rotate_left
          · rintro w' ⟨s0, s1, s2, s3, s4, s5, s6, s7, s8, s9, s10, s11, s12, s13, s14, s15, s16, s17, s18, s19, s20, s21, s22, s23, s24⟩
            go_simp
            with_reducible rfl
          rotate_left
          · simp only [Act.put, List.setIfInBounds_toArray, List.set_cons_zero, List.set_cons_succ, i64_w, i32_w]
            rfl
          refine take_ (i := 4) (N := some 130) (v := ?_) (a' := ?_) #[true, true, true, true, true, true, false, false, false, false, false, false] rfl rfl (by kernel_rfl) (fun _ _ _ h => h) (Or.inl ⟨by rfl, ?_⟩) hHeld ?_ ?_
          rotate_left
          · rintro w' ⟨s0, s1, s2, s3, s4, s5, s6, s7, s8, s9, s10, s11, s12, s13, s14, s15, s16, s17, s18, s19, s20, s21, s22, s23, s24⟩
            go_simp
            with_reducible rfl
          rotate_left
          · simp only [Act.put, List.setIfInBounds_toArray, List.set_cons_zero, List.set_cons_succ, i64_w, i32_w]
            rfl
          refine take_ (i := 6) (N := some 132) (v := ?_) (a' := ?_) #[true, true, true, true, true, true, true, false, false, false, false, false] rfl rfl (by kernel_rfl) (fun _ _ _ h => h) (Or.inl ⟨by rfl, ?_⟩) hHeld ?_ ?_
          rotate_left
          · rintro w' ⟨s0, s1, s2, s3, s4, s5, s6, s7, s8, s9, s10, s11, s12, s13, s14, s15, s16, s17, s18, s19, s20, s21, s22, s23, s24⟩
            go_simp
            with_reducible rfl
          rotate_left
          · simp only [Act.put, List.setIfInBounds_toArray, List.set_cons_zero, List.set_cons_succ, i64_w, i32_w]
            rfl
          refine pure_ (i := 7) (N := some 133) (v := ?_) (a' := ?_) #[true, true, true, true, true, true, true, true, false, false, false, false] rfl rfl (by kernel_rfl) (fun _ _ _ h => h) (Or.inl ⟨by rfl, ?_⟩) ?_ ?_
          rotate_left
          · intro w'
            go_simp
            with_reducible rfl
          rotate_left
          · simp only [Act.put, List.setIfInBounds_toArray, List.set_cons_zero, List.set_cons_succ, i64_w, i32_w]
            rfl
          refine pure_ (i := 8) (N := some 134) (v := ?_) (a' := ?_) #[true, true, true, true, true, true, true, true, true, false, false, false] rfl rfl (by kernel_rfl) (fun _ _ _ h => h) (Or.inl ⟨by rfl, ?_⟩) ?_ ?_
          rotate_left
          · intro w'
            go_simp
            with_reducible rfl
          rotate_left
          · simp only [Act.put, List.setIfInBounds_toArray, List.set_cons_zero, List.set_cons_succ, i64_w, i32_w]
            rfl
          refine take_ (i := 9) (N := some 135) (v := ?_) (a' := ?_) #[true, true, true, true, true, true, true, true, true, true, false, false] rfl rfl (by kernel_rfl) (fun _ _ _ h => h) (Or.inl ⟨by rfl, ?_⟩) hHeld ?_ ?_
          rotate_left
          · rintro w' ⟨s0, s1, s2, s3, s4, s5, s6, s7, s8, s9, s10, s11, s12, s13, s14, s15, s16, s17, s18, s19, s20, s21, s22, s23, s24⟩
            go_simp
            with_reducible rfl
          rotate_left
          · simp only [Act.put, List.setIfInBounds_toArray, List.set_cons_zero, List.set_cons_succ, i64_w, i32_w]
            rfl
          refine last_ (i := 10) (N := some 136) #[true, true, true, true, true, true, true, true, true, true, true, false] rfl rfl (by kernel_rfl) (by decide) (fun K hK => ?_)
          refine goes_ Try.func24 (by kernel_rfl) rfl #[.agg #[.int .i64 m.f0, .int .i64 m.f1.f0, .int .i64 m.f1.f1, .int .i64 m.f2, .int .i64 m.f3, .int .i64 m.f4, .int .i64 m.f5, .int .i64 m.f6, .bool m.f7, .slice A13 m.f8.length c13, .slice A14 m.f9.length c14], .agg #[.int .i64 m.f0, .int .i64 m.f1.f0, .int .i64 m.f1.f1, .int .i64 m.f2, .int .i64 m.f3, .int .i64 m.f4, .int .i64 m.f5, .int .i64 m.f6, .bool m.f7, .slice B8 m.f8.length D8, .slice B9 m.f9.length D9]] (by rfl) rfl rfl (by simp only [List.map_toArray, List.map_cons, List.map_nil]; rfl) ?_
          with_reducible refine (same_calls (m := m) (w := w19.drew) (Kd.C_below G8_.out (below_drew (Below.refl _ _))) (Kd.C_below G9_.out (below_drew (Below.refl _ _))) (Kd.C_below H8_.out (below_drew (Below.refl _ _))) (Kd.C_below H9_.out (below_drew (Below.refl _ _))) FB.out.1 FB.out.2).mono ?_
          rintro x w22 ⟨rfl, hb⟩
          refine ⟨_, rfl, ?_⟩
          have B22 := Aside0.mk (below_step (below_drew B19.out) hb); have X22 := Aside0.mk (X19.out.drew.below hb); have M22 := Aside0.mk (blk_below (blk_drew M19.out) hb); have O22 := Aside0.mk (Kd.R_below (Kd.R_below O19.out (below_drew (Below.refl _ _))) hb); have P22 := Aside0.mk (Kd.R_below (Kd.R_below P19.out (below_drew (Below.refl _ _))) hb)
          clear hb
          refine hK.out _ _ ?_
          clear hK K
          refine norm_ (a' := ?_) ?_ ?_
          rotate_left
          · show Act.put _ (some 136) _ = _
            simp only [Act.put, List.setIfInBounds_toArray, List.set_cons_zero, List.set_cons_succ, i64_w, i32_w]
            rfl
          refine pure_ (i := 11) (N := some 137) (v := ?_) (a' := ?_) #[true, true, true, true, true, true, true, true, true, true, true, true] rfl rfl (by kernel_rfl) (fun _ _ _ h => h) (Or.inl ⟨by rfl, ?_⟩) ?_ ?_
          rotate_left
          · intro w'
            go_simp
            with_reducible rfl
          rotate_left
          · simp only [Act.put, List.setIfInBounds_toArray, List.set_cons_zero, List.set_cons_succ, i64_w, i32_w]
            rfl
          refine done_ (by kernel_rfl) ?_
          go_wp2_with fail
          go_roundg (gk - 1)
          case measure => have := NJ.out.2; omega
          case rel => exact ⟨j + 1, h + 1, A18, c18, B, d, by (first | rw [b2] | rfl), ⟨NJ.out.1⟩, ⟨by have := HHJ.out; rw [if_pos HHI.out]; omega⟩, B22, M22, X22, O22, P22⟩
end Go.Proofs.Ythgdojaildccaaa.Pure
