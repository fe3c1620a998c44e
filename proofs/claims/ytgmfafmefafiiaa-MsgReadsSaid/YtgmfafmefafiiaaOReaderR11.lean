/-
  A reader in memory (code.Reader): what it is, that it is made, and its methods, told of it.
-/
import Derived.Test.YtgmfafmefafiiaaMx4
namespace Go.Proofs.Ytgmfafmefafiiaa.M
open Go.RowKit Go.Proofs.YtgmfafmefafiiaaW.PrintWords Go.Proofs.YtgmfafmefafiiaaW.PrintLast Go.Proofs.YtgmfafmefafiiaaW.PrintMore
set_option linter.unusedVariables false
set_option linter.unusedSimpArgs false
/-- a reader at block g: its bytes lie in a block between lo and g -/
def IsR (lo : Nat) (w : World) (g : Nat) (l : List Int) (at_ e : Int) : Prop :=
  ∃ A c, w.heap[g]? = some (.cells #[.slice A l.length c, .int .i64 at_, .int .i64 e] 73 (0, 0)) ∧ (∀ a, A = some a → 0 < l.length → lo ≤ a.block ∧ a.block < g) ∧ Kd.C (Kd.int .u8) w A l.length l ∧ l.length ≤ c
set_option maxHeartbeats 4000000 in
set_option maxRecDepth 100000 in
theorem code_Read.calls (A0 : Option Addr) (c0 : Nat) (l0 : List Int) (w : World) (hr0 : Kd.C (Kd.int .u8) w A0 l0.length l0) (hc0 : l0.length ≤ c0) (hl : l0.length < 140737488355328) :
    Calls Try.prog 17 #[.slice A0 l0.length c0] w fun e w' => ∃ g, e = .returned (.pointer (some ⟨g, 0, none⟩)) ∧ w.heap.size ≤ g ∧ IsR w.heap.size w' g l0 0 0 ∧ Below w.heap.size w w' := by
  have HR0 := Aside0.mk hr0
  have HC0 := Aside0.mk hc0
  clear hr0 hc0
  have HB := Aside0.mk (Below.refl w.heap.size w)
  go_enter Try.func17, Try.ntmps17
  go_wp2_with (first | ((with_reducible refine gate_dst (N := 3) rfl ?_); refine Kd.R_lit (Kd.int .u8) _ 5 ?hg (N := 3) ?hd (xs := ([] : List Int)) (inner := []) (ok := fun _ => True) (okp := fun _ => True) ?hr ?hp (fun _ hk => hk) trivial (Below.refl _ _) (Nat.le_refl _) (by simp) ?_; (case hd => rfl); (case hg => rfl); (case hr => first | (go_simp; done) | (go_simp; rfl)); (case hp => exact (Reps.none _ _)); intro v1 w9 ho10 hb hg_ hnew_; clear hg_ hnew_; have n0_ := Aside0.mk (Kd.R_lower ho10 (below_size (by repeat (first | (with_reducible first | exact HB.out | apply below_alloc | apply pw_below_drewN | apply below_drew1) | exact HB.out)))); have n1_ := Aside0.mk (below_step (by repeat (first | (with_reducible first | exact HB.out | apply below_alloc | apply pw_below_drewN | apply below_drew1) | exact HB.out)) hb); clear HB; have HO1 := n0_; have HB := n1_; clear n0_ n1_; clear hb ho10) | ((with_reducible refine gate_builtin (b := .append) (xs := #[.tmp 3, .tmp 4]) rfl ?_); at_builtin; refine Kd.R_append_rows (Kd.int .u8) (w0 := w) w.heap.size rfl (.tmp 3) (.tmp 4) 22 5 (.int .u8 0) 1 rfl Try.underlying22 info5 rfl (by decide) (by omega) v1 [] l0 _ _ _ (fun _ => True) (fun _ => False) rfl rfl ?aO ?aR (fun _ _ h => h) (fun _ h => h.elim) ?aF ?aB ?aS ?aL ?_; (case aR => repeat (first | exact (Kd.C_below HR0.out HB.out) | (with_reducible refine Kd.C_alloc ?_ _) | (with_reducible refine Kd.C_drewN ?_ _) | (with_reducible refine Kd.C_drew ?_))); (case aB => exact (by repeat (first | (with_reducible first | exact HB.out | apply below_alloc | apply pw_below_drewN | apply below_drew1) | exact HB.out))); (case aF => exact (fun _ _ => trivial)); (case aO => exact (by (with_reducible repeat (first | apply Kd.R_alloc | apply Kd.R_drewN | apply Kd.R_drew)); exact HO1.out)); (case aS => exact (below_size (by repeat (first | (with_reducible first | exact HB.out | apply below_alloc | apply pw_below_drewN | apply below_drew1) | exact HB.out)))); (case aL => first | omega | (simp only [List.length_nil]; omega) | (simp; omega)); intro v2 w11 ho hb hg hat; rw [List.nil_append] at ho; have n0_ := Aside0.mk (hb); have n1_ := Aside0.mk (ho); clear HB; clear HO1; have HB := n0_; have HO2 := n1_; clear n0_ n1_; clear ho hb hg hat; obtain ⟨Ao, co, eo⟩ := Kd.R_slice HO2.out; subst eo) | ((with_reducible refine gate_dst (N := 7) rfl ?_); refine box_event ?hg (N := 7) ?hd (cs := #[.slice Ao l0.length co, .int .i64 0, .int .i64 0]) (t := 73) ?hr ?_; (case hd => rfl); (case hg => rfl); (case hr => first | (go_simp; done) | (go_simp; rfl)); intro gb hg w12 hbox hb; have HC := Aside0.mk (Kd.C_below (Kd.R_reads' HO2.out).2.2 hb); have HLe := Aside0.mk (Kd.R_reads' HO2.out).2.1; have HL := Aside0.mk (Kd.R_lt HO2.out); have HBa := Aside0.mk (Kd.R_base HO2.out); have HG := Aside0.mk hg; have HS := Aside0.mk (show w.heap.size ≤ gb from by rw [hg]; exact HB.out.size); have n0_ := Aside0.mk (below_step (by repeat (first | (with_reducible first | exact HB.out | apply below_alloc | apply pw_below_drewN | apply below_drew1) | exact HB.out)) hb); clear HB; have HB := n0_; clear n0_; have BK := Aside0.mk hbox; clear hbox hb hg))
  go_ret
  refine ⟨gb, rfl, HS.out, ⟨Ao, co, BK.out, fun a ha _ => ?_, HC.out, HLe.out⟩, HB.out⟩
  subst ha
  exact ⟨HBa.out _ rfl, by rw [HG.out]; exact HL.out _ rfl⟩
/-- the world as it was ahead of block g -/
def cutW (w : World) (g : Nat) : World := { w with heap := w.heap.extract 0 g }
theorem cutW_size {w : World} {g : Nat} (h : g ≤ w.heap.size) : (cutW w g).heap.size = g := by simp [cutW]; omega
theorem cutW_heap {w : World} {g k : Nat} (hg : g ≤ w.heap.size) (h : k < g) : (cutW w g).heap[k]? = w.heap[k]? := by
  simp only [cutW, Array.getElem?_extract]
  rw [if_pos (by omega)]
  simp
theorem cutW_below {w : World} {g : Nat} (h : g ≤ w.heap.size) : Below (cutW w g).heap.size (cutW w g) w :=
  ⟨rfl, rfl, rfl, by rw [cutW_size h]; exact h, fun k hk => (cutW_heap h (by rw [cutW_size h] at hk; exact hk)).symm⟩
theorem cell_of_heap {w w' : World} {a : Addr} (h : w'.heap[a.block]? = w.heap[a.block]?) : w'.cell? a = w.cell? a := by
  unfold World.cell?
  rw [h]
theorem C_cut {w : World} {g : Nat} {A : Option Addr} {l : List Int} (hg : g ≤ w.heap.size) (h : Kd.C (Kd.int .u8) w A l.length l) (hA : ∀ a, A = some a → 0 < l.length → a.block < g) : Kd.C (Kd.int .u8) (cutW w g) A l.length l := by
  obtain ⟨h1, h2, h3⟩ := h
  refine ⟨h1, h2, fun hn => ?_⟩
  obtain ⟨ad, hA2, hc⟩ := h3 hn
  refine ⟨ad, hA2, fun j p hp => ?_⟩
  obtain ⟨c, hl, hR, hcell⟩ := hc j p hp
  refine ⟨c, hl, hR, fun i u hu => ?_⟩
  rw [← hcell i u hu]
  exact cell_of_heap (cutW_heap hg (by have := hA ad hA2 hn; rw [add_block]; exact this))
theorem IsR.lt {lo : Nat} {w : World} {g : Nat} {l : List Int} {a e : Int} (h : IsR lo w g l a e) : g < w.heap.size := by
  obtain ⟨A, c, h1, -⟩ := h
  exact (Array.getElem?_eq_some_iff.mp h1).1
theorem IsR.state {lo : Nat} {w : World} {g : Nat} {l : List Int} {a e : Int} (h : IsR lo w g l a e) : IsS73 (cutW w g) w g l a e ∧ Below (cutW w g).heap.size (cutW w g) w := by
  have hg := Nat.le_of_lt h.lt
  refine ⟨?_, cutW_below hg⟩
  obtain ⟨A, c, h1, h2, h3, h4⟩ := h
  exact ⟨A, c, h1, by rw [cutW_size hg]; exact Nat.le_refl _, C_cut hg h3 (fun b hb hn => (h2 b hb hn).2), h4⟩
theorem IsR.back {lo : Nat} {w w' : World} {g : Nat} {l : List Int} {a e a' e' : Int} (h : IsR lo w g l a e) (hi : IsS73 (cutW w g) w' g l a' e') (hb : Below (cutW w g).heap.size (cutW w g) w') (hk : KeepBut w w' g none) :
    IsR 0 w' g l a' e' ∧ Below g w w' := by
  have hg := Nat.le_of_lt h.lt
  refine ⟨?_, hb.os, hb.tape, hb.output, hk.1, fun k hk2 => hk.2 k (Nat.lt_of_lt_of_le hk2 hg) (by omega) (by simp)⟩
  obtain ⟨A, c, h1, h2, h3, h9⟩ := hi
  refine ⟨A, c, h1, fun b hb2 hn => ⟨Nat.zero_le _, ?_⟩, Kd.C_below h3 hb, h9⟩
  obtain ⟨_, _, h4⟩ := h3
  obtain ⟨ad, hA, hc⟩ := h4 hn
  rw [hb2] at hA
  obtain rfl : b = ad := by injection hA
  obtain ⟨c2, hl2, hR, hcell⟩ := hc 0 (l[0]'hn) (by simp)
  obtain rfl : c2 = [.int .u8 (l[0]'hn)] := hR
  have := World.block_lt_of_cell? _ _ (hcell 0 _ rfl)
  rw [cutW_size hg, add_block] at this
  exact this
theorem IsR.zero {lo : Nat} {w : World} {g : Nat} {l : List Int} {a e : Int} (h : IsR lo w g l a e) : IsR 0 w g l a e := by
  obtain ⟨A, c, h1, h2, h3⟩ := h
  exact ⟨A, c, h1, fun b hb hn => ⟨Nat.zero_le _, (h2 b hb hn).2⟩, h3⟩
/-- what changes other blocks, behind the reader's, leaves it as it is -/
theorem IsR.kept {lo : Nat} {w w' : World} {g : Nat} {l : List Int} {a e : Int} {S : Nat → Prop} (h : IsR lo w g l a e) (hk : Kept w w' S) (hs : ∀ k, S k → k ≠ g ∧ (g < k ∨ k < lo)) : IsR lo w' g l a e := by
  have hlt := h.lt
  obtain ⟨A, c, h1, h2, h3, h9⟩ := h
  refine ⟨A, c, (hk.2 g hlt (fun q => (hs g q).1 rfl)).trans h1, h2, ?_, h9⟩
  · obtain ⟨g1, g2, g3⟩ := h3
    refine ⟨g1, g2, fun hn => ?_⟩
    obtain ⟨ad, hA2, hc⟩ := g3 hn
    refine ⟨ad, hA2, fun j p hp => ?_⟩
    obtain ⟨c, hl, hR, hcell⟩ := hc j p hp
    refine ⟨c, hl, hR, fun i u hu => ?_⟩
    rw [← hcell i u hu]
    have hb := h2 ad hA2 hn
    refine cell_of_heap (hk.2 _ (by rw [add_block]; omega) (fun q => ?_))
    rw [add_block] at q
    rcases (hs _ q).2 with q | q <;> omega
theorem IsR.below {lo : Nat} {w w' : World} {g : Nat} {l : List Int} {a e : Int} (h : IsR lo w g l a e) (hb : Below w.heap.size w w') : IsR lo w' g l a e := h.kept (Kept.of_below hb (fun _ => False)) (fun _ q => q.elim)
theorem rd_Num {lo : Nat} {w : World} {g : Nat} {l : List Int} {a e : Int} {k : Nat} {r1 : Int} {r2 r3 : Int} (h : IsR lo w g l a e) (hf : code_Reader_Num.f k l a e = some (r1, r2, r3)) :
    Calls Try.prog 34 #[.pointer (some ⟨g, 0, none⟩)] w fun x w' => x = .returned (.int .i64 r1) ∧ IsR 0 w' g l r2 r3 ∧ Below g w w' ∧ KeepBut w w' g none := by
  obtain ⟨hs, hb⟩ := h.state
  refine (code_Reader_Num.calls k g l a e r1 r2 r3 _ w hs hb hf).mono ?_
  rintro x w' ⟨rfl, hi, hb', hk⟩
  obtain ⟨h1, h2⟩ := h.back hi hb' hk
  exact ⟨rfl, h1, h2, hk⟩
theorem rd_Err {lo : Nat} {w : World} {g : Nat} {l : List Int} {a e : Int} {r1 : Int} {r2 r3 : Int} (h : IsR lo w g l a e) (hf : code_Reader_Err.f l a e = some (r1, r2, r3)) :
    Calls Try.prog 32 #[.pointer (some ⟨g, 0, none⟩)] w fun x w' => x = .returned (.int .i64 r1) ∧ IsR 0 w' g l r2 r3 ∧ Below g w w' ∧ KeepBut w w' g none := by
  obtain ⟨hs, hb⟩ := h.state
  refine (code_Reader_Err.calls g l a e r1 r2 r3 _ w hs hb hf).mono ?_
  rintro x w' ⟨rfl, hi, hb', hk⟩
  obtain ⟨h1, h2⟩ := h.back hi hb' hk
  exact ⟨rfl, h1, h2, hk⟩
theorem rd_Left {lo : Nat} {w : World} {g : Nat} {l : List Int} {a e : Int} {r1 : Int} {r2 r3 : Int} (h : IsR lo w g l a e) (hf : code_Reader_Left.f l a e = some (r1, r2, r3)) :
    Calls Try.prog 36 #[.pointer (some ⟨g, 0, none⟩)] w fun x w' => x = .returned (.int .i64 r1) ∧ IsR 0 w' g l r2 r3 ∧ Below g w w' ∧ KeepBut w w' g none := by
  obtain ⟨hs, hb⟩ := h.state
  refine (code_Reader_Left.calls g l a e r1 r2 r3 _ w hs hb hf).mono ?_
  rintro x w' ⟨rfl, hi, hb', hk⟩
  obtain ⟨h1, h2⟩ := h.back hi hb' hk
  exact ⟨rfl, h1, h2, hk⟩
theorem rd_End {lo : Nat} {w : World} {g : Nat} {l : List Int} {a e : Int} {r1 : Int} {r2 r3 : Int} (h : IsR lo w g l a e) (hf : code_Reader_End.f l a e = some (r1, r2, r3)) :
    Calls Try.prog 19 #[.pointer (some ⟨g, 0, none⟩)] w fun x w' => x = .returned (.int .i64 r1) ∧ IsR 0 w' g l r2 r3 ∧ Below g w w' ∧ KeepBut w w' g none := by
  obtain ⟨hs, hb⟩ := h.state
  refine (code_Reader_End.calls g l a e r1 r2 r3 _ w hs hb hf).mono ?_
  rintro x w' ⟨rfl, hi, hb', hk⟩
  obtain ⟨h1, h2⟩ := h.back hi hb' hk
  exact ⟨rfl, h1, h2, hk⟩
theorem rd_Int {lo : Nat} {w : World} {g : Nat} {l : List Int} {a e : Int} {k : Nat} (b1 b2 : Int) {r1 : Int} {r2 r3 : Int} (h : IsR lo w g l a e) (hf : code_Reader_Int.f k l a e b1 b2 = some (r1, r2, r3)) :
    Calls Try.prog 31 #[.pointer (some ⟨g, 0, none⟩), .int .i64 b1, .int .i64 b2] w fun x w' => x = .returned (.int .i64 r1) ∧ IsR 0 w' g l r2 r3 ∧ Below g w w' ∧ KeepBut w w' g none := by
  obtain ⟨hs, hb⟩ := h.state
  refine (code_Reader_Int.calls k g l a e b1 b2 r1 r2 r3 _ w hs hb hf).mono ?_
  rintro x w' ⟨rfl, hi, hb', hk⟩
  obtain ⟨h1, h2⟩ := h.back hi hb' hk
  exact ⟨rfl, h1, h2, hk⟩
theorem rd_Bool {lo : Nat} {w : World} {g : Nat} {l : List Int} {a e : Int} {r1 : Bool} {r2 r3 : Int} (h : IsR lo w g l a e) (hf : code_Reader_Bool.f l a e = some (r1, r2, r3)) :
    Calls Try.prog 35 #[.pointer (some ⟨g, 0, none⟩)] w fun x w' => x = .returned (.bool r1) ∧ IsR 0 w' g l r2 r3 ∧ Below g w w' ∧ KeepBut w w' g none := by
  obtain ⟨hs, hb⟩ := h.state
  refine (code_Reader_Bool.calls g l a e r1 r2 r3 _ w hs hb hf).mono ?_
  rintro x w' ⟨rfl, hi, hb', hk⟩
  obtain ⟨h1, h2⟩ := h.back hi hb' hk
  exact ⟨rfl, h1, h2, hk⟩
theorem rd_fail {lo : Nat} {w : World} {g : Nat} {l : List Int} {a e : Int} {b1 : Int} {r2 r3 : Int} (h : IsR lo w g l a e) (hf : code_Reader_fail.f l a e b1 = some (r2, r3)) :
    Calls Try.prog 37 #[.pointer (some ⟨g, 0, none⟩), .int .i64 b1] w fun x w' => x = .returned (.tuple #[]) ∧ IsR 0 w' g l r2 r3 ∧ Below g w w' ∧ KeepBut w w' g none := by
  obtain ⟨hs, hb⟩ := h.state
  refine (code_Reader_fail.calls g l a e b1 r2 r3 _ w hs hb hf).mono ?_
  rintro x w' ⟨rfl, hi, hb', hk⟩
  obtain ⟨h1, h2⟩ := h.back hi hb' hk
  exact ⟨rfl, h1, h2, hk⟩
theorem code_Read.callsm {A0 : Option Addr} {c0 m : Nat} {l0 : List Int} {w : World} (hm : m = l0.length) (hr0 : Kd.C (Kd.int .u8) w A0 l0.length l0) (hc0 : l0.length ≤ c0) (hl : l0.length < 140737488355328) :
    Calls Try.prog 17 #[.slice A0 m c0] w fun e w' => ∃ g, e = .returned (.pointer (some ⟨g, 0, none⟩)) ∧ w.heap.size ≤ g ∧ IsR w.heap.size w' g l0 0 0 ∧ Below w.heap.size w w' := by
  subst hm
  exact code_Read.calls A0 c0 l0 w hr0 hc0 hl
end Go.Proofs.Ytgmfafmefafiiaa.M
