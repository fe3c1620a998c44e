/-
  Rows of the call's own whose elements were lent: their cells are told of an elder world. And a net beside such a row.
-/
import Derived.Test.YthgdojaildccaaaONet8
namespace Go.Proofs.Ythgdojaildccaaa.M
open Go.RowKit Go.Proofs.Ythgdojaildccaaa.M Go.Proofs.YthgdojaildccaaaW.PrintWords Go.Proofs.YthgdojaildccaaaW.PrintLast Go.Proofs.YthgdojaildccaaaW.PrintMore
set_option linter.unusedVariables false
set_option linter.unusedSimpArgs false
/-- elements whose cells are told of w0 -/
def lent {α : Type} (w0 : World) (d : Kd α) : Kd α where
  sz := d.sz
  E := []
  K := fun _ => d.K w0
  M := fun _ _ _ => d.K w0
  K_len := d.K_len
  K_one := d.K_one
  K_below := fun _ h => h
  K_of_M := fun h => h
  M_mono := fun _ h => h
  M_bound := fun h => h
  M_move := fun _ h => h
  M_lower := fun _ h => h
theorem C_lent {α : Type} {d : Kd α} {w0 W : World} {A : Option Addr} {n : Nat} {xs : List α} (h : d.C w0 A n xs) (hb : Below w0.heap.size w0 W) : (lent w0 d).C W A n xs := Kd.C_below (d := lent w0 d) h hb
theorem at_L37 {w0 w : World} {A : Option Addr} {n : Nat} {xs : List S37} (h : Kd.C (lent w0 k37) w A n xs) (i : Int) (h0 : 0 ≤ i) (h1 : i < n) : ∃ ad A13 c13 A14 c14, A = some ad ∧ w.cell? (ad.add (i.toNat * 15)) = some (.int .i64 (rd_T37 xs i).f0) ∧ w.cell? ⟨(ad.add (i.toNat * 15)).block, (ad.add (i.toNat * 15)).off + 1, none⟩ = some (.int .i64 (rd_T37 xs i).f1) ∧ w.cell? ⟨(ad.add (i.toNat * 15)).block, (ad.add (i.toNat * 15)).off + 2, none⟩ = some (.int .i64 (rd_T37 xs i).f2) ∧ w.cell? ⟨(ad.add (i.toNat * 15)).block, (ad.add (i.toNat * 15)).off + 3, none⟩ = some (.int .i64 (rd_T37 xs i).f3) ∧ w.cell? ⟨(ad.add (i.toNat * 15)).block, (ad.add (i.toNat * 15)).off + 4, none⟩ = some (.int .i64 (rd_T37 xs i).f4.f0) ∧ w.cell? ⟨(ad.add (i.toNat * 15)).block, (ad.add (i.toNat * 15)).off + 5, none⟩ = some (.int .i64 (rd_T37 xs i).f4.f1.f0) ∧ w.cell? ⟨(ad.add (i.toNat * 15)).block, (ad.add (i.toNat * 15)).off + 6, none⟩ = some (.int .i64 (rd_T37 xs i).f4.f1.f1) ∧ w.cell? ⟨(ad.add (i.toNat * 15)).block, (ad.add (i.toNat * 15)).off + 7, none⟩ = some (.int .i64 (rd_T37 xs i).f4.f2) ∧ w.cell? ⟨(ad.add (i.toNat * 15)).block, (ad.add (i.toNat * 15)).off + 8, none⟩ = some (.int .i64 (rd_T37 xs i).f4.f3) ∧ w.cell? ⟨(ad.add (i.toNat * 15)).block, (ad.add (i.toNat * 15)).off + 9, none⟩ = some (.int .i64 (rd_T37 xs i).f4.f4) ∧ w.cell? ⟨(ad.add (i.toNat * 15)).block, (ad.add (i.toNat * 15)).off + 10, none⟩ = some (.int .i64 (rd_T37 xs i).f4.f5) ∧ w.cell? ⟨(ad.add (i.toNat * 15)).block, (ad.add (i.toNat * 15)).off + 11, none⟩ = some (.int .i64 (rd_T37 xs i).f4.f6) ∧ w.cell? ⟨(ad.add (i.toNat * 15)).block, (ad.add (i.toNat * 15)).off + 12, none⟩ = some (.bool (rd_T37 xs i).f4.f7) ∧ w.cell? ⟨(ad.add (i.toNat * 15)).block, (ad.add (i.toNat * 15)).off + 13, none⟩ = some (.slice A13 (rd_T37 xs i).f4.f8.length c13) ∧ w.cell? ⟨(ad.add (i.toNat * 15)).block, (ad.add (i.toNat * 15)).off + 14, none⟩ = some (.slice A14 (rd_T37 xs i).f4.f9.length c14) ∧ (rd_T37 xs i).f4.f8.length ≤ c13 ∧ k47.C w0 A13 (rd_T37 xs i).f4.f8.length (rd_T37 xs i).f4.f8 ∧ (rd_T37 xs i).f4.f9.length ≤ c14 ∧ (Kd.int .i64).C w0 A14 (rd_T37 xs i).f4.f9.length (rd_T37 xs i).f4.f9 := by
  obtain ⟨ad, c, e, _, hK, hc0⟩ := Kd.C_get h z37 i h0 h1
  have hc : ∀ j u, c[j]? = some u → w.cell? (ad.add (i.toNat * 15 + j)) = some u := hc0
  obtain ⟨A13, c13, A14, c14, rfl, l13, g13, l14, g14⟩ := k37_open (show k37.K w0 _ c from hK)
  exact ⟨ad, A13, c13, A14, c14, e, hc 0 _ rfl, by rw [← add_field _ _ 1 (by omega)]; exact hc 1 _ rfl, by rw [← add_field _ _ 2 (by omega)]; exact hc 2 _ rfl, by rw [← add_field _ _ 3 (by omega)]; exact hc 3 _ rfl, by rw [← add_field _ _ 4 (by omega)]; exact hc 4 _ rfl, by rw [← add_field _ _ 5 (by omega)]; exact hc 5 _ rfl, by rw [← add_field _ _ 6 (by omega)]; exact hc 6 _ rfl, by rw [← add_field _ _ 7 (by omega)]; exact hc 7 _ rfl, by rw [← add_field _ _ 8 (by omega)]; exact hc 8 _ rfl, by rw [← add_field _ _ 9 (by omega)]; exact hc 9 _ rfl, by rw [← add_field _ _ 10 (by omega)]; exact hc 10 _ rfl, by rw [← add_field _ _ 11 (by omega)]; exact hc 11 _ rfl, by rw [← add_field _ _ 12 (by omega)]; exact hc 12 _ rfl, by rw [← add_field _ _ 13 (by omega)]; exact hc 13 _ rfl, by rw [← add_field _ _ 14 (by omega)]; exact hc 14 _ rfl, l13, g13, l14, g14⟩
/-- the memory of a law over a net: m's row v (elements lent of w), the net at g; Z: what the net's elder blocks are bound to -/
structure MN (w W : World) (g : Nat) (v : Value) (ms fl : List S37) (Z : Nat → Prop) : Prop where
  fit : ∀ q ∈ ms, Fit q
  row : Kd.R (lent w k37) 37 W w.heap.size (fun k => k ≠ g) v ms
  net : IsN w.heap.size (fun k => (w.heap.size ≤ k ∧ some k ≠ v.ownBlock) ∧ Z k) W g fl
  bel : Below w.heap.size w W
namespace MN
variable {w W W' : World} {g : Nat} {v v1 : Value} {ms fl ms1 fl' : List S37} {Z : Nat → Prop}
theorem below (h : MN w W g v ms fl Z) (hb : Below W.heap.size W W') : MN w W' g v ms fl Z := ⟨h.fit, Kd.R_below h.row hb, h.net.below hb, below_step h.bel hb⟩
theorem drew (h : MN w W g v ms fl Z) : MN w W.drew g v ms fl Z := h.below (below_drew (Below.refl _ _))
theorem bnd (h : MN w W g v ms fl Z) : MN w W g v ms fl (fun k => k < W.heap.size) := ⟨h.fit, h.row, h.net.bound.mono (fun k hk => ⟨hk.1.1, hk.2⟩), h.bel⟩
theorem any (h : MN w W g v ms fl Z) : MN w W g v ms fl (fun _ => True) := ⟨h.fit, h.row, h.net.mono (fun k hk => ⟨hk.1, trivial⟩), h.bel⟩
theorem le (h : MN w W g v ms fl Z) : w.heap.size ≤ W.heap.size := h.bel.size
theorem op (h : MN w W g v ms fl Z) (hI : IsN w.heap.size (fun k => ((w.heap.size ≤ k ∧ some k ≠ v.ownBlock) ∧ Z k) ∨ W.heap.size ≤ k) W' g fl') (hb : Below w.heap.size W W') (hk : Kept W W' (fun k => (w.heap.size ≤ k ∧ some k ≠ v.ownBlock) ∧ Z k)) : MN w W' g v ms fl' (fun _ => True) := by
  refine ⟨h.fit, Kd.R_mono (Kd.R_kept (Kd.R_tight rfl h.row) hk (fun k e q => q.1.2 e)) (fun k e => h.row.1 k e.symm), hI.mono ?_, h.bel.trans hb⟩
  intro k q
  rcases q with q | q
  · exact ⟨q.1, trivial⟩
  · refine ⟨⟨Nat.le_trans h.le q, fun e => ?_⟩, trivial⟩
    have := Kd.R_lt h.row k e.symm
    omega
theorem op' (h : MN w W g v ms fl Z) (hI : IsN w.heap.size (fun k => (w.heap.size ≤ k ∧ some k ≠ v.ownBlock) ∧ Z k) W' g fl') (hb : Below w.heap.size W W') (hk : Kept W W' (fun k => (w.heap.size ≤ k ∧ some k ≠ v.ownBlock) ∧ Z k)) : MN w W' g v ms fl' (fun _ => True) := h.op (hI.mono (fun _ q => .inl q)) hb hk
theorem app (h : MN w W g v ms fl Z) (ho : Kd.R (lent w k37) 37 W' w.heap.size (fun k => k ≠ g) v1 ms1) (hb : Below w.heap.size w W') (hg : W.grownBy W' v.ownBlock) (hat : v1.ownBlock = v.ownBlock ∨ ∃ b, v1.ownBlock = some b ∧ W.heap.size ≤ b) (hf : ∀ q ∈ ms1, Fit q) : MN w W' g v1 ms1 fl (fun _ => True) := by
  refine ⟨hf, ho, (h.net.bound.kept (S := fun k => some k = v.ownBlock) ⟨hg.size, fun k hk hs => hg.block k hk hs⟩ (fun k q e => q.1.1.2 e)).mono ?_, hb⟩
  intro k q
  refine ⟨⟨q.1.1.1, fun e => ?_⟩, trivial⟩
  rcases hat with hat | ⟨b, hb2, hle⟩
  · rw [hat] at e; exact q.1.1.2 e
  · rw [hb2] at e; injection e with e; have := q.2; omega
theorem swap (h : MN w W g v ms fl Z) (hb : Below W.heap.size W W') {ok : Nat → Prop} (ho : Kd.R (lent w k37) 37 W' W.heap.size ok v1 ms1) (hf : ∀ q ∈ ms1, Fit q) : MN w W' g v1 ms1 fl (fun _ => True) := by
  refine ⟨hf, Kd.R_lower (Kd.R_mono (Kd.R_tight rfl ho) (fun k e => ?_)) h.le, (h.net.bound.below hb).mono ?_, below_step h.bel hb⟩
  · have h1 := Kd.R_base ho k e.symm
    have h2 := h.net.lt
    omega
  · intro k q
    refine ⟨⟨q.1.1.1, fun e => ?_⟩, trivial⟩
    have := Kd.R_base ho k e.symm
    have := q.2
    omega
theorem C (h : MN w W g v ms fl Z) {A : Option Addr} {n c : Nat} (e : v = .slice A n c) : n = ms.length ∧ n ≤ c ∧ (lent w k37).C W A ms.length ms := by subst e; exact Kd.R_reads' h.row
end MN
/-- all are on their way -/
theorem net_SendAll {N : Nat} {P : Nat → Prop} {w : World} {g n : Nat} {fl ps : List S37} {A : Option Addr} {c : Nat} (hn : n = ps.length) (h : IsN N P w g fl) (hNw : N ≤ w.heap.size) (hC : ∀ w', Below N w w' → Kept w w' P → Kd.C k37 w' A ps.length ps) (hc : ps.length ≤ c) (hf : ∀ p ∈ ps, Fit p) (h8 : fl.length + ps.length ≤ 8192) :
    Calls Try.prog 12 #[.pointer (some ⟨g, 0, none⟩), .slice A n c] w fun x w' => x = .returned (.int .i64 (ps.length : Int)) ∧ IsN N (fun k => P k ∨ w.heap.size ≤ k) w' g (fl ++ ps) ∧ Below N w w' ∧ Kept w w' P := by
  have hs : sentN fl.length ps.length = ps.length := by unfold sentN; omega
  have := net_Sendn hn h hNw hC hc hf
  rw [hs, List.take_length] at this
  exact this
theorem net_TwiceAll {N : Nat} {P : Nat → Prop} {w : World} {g : Nat} {fl : List S37} {i : Nat} (h : IsN N P w g fl) (hi : i < fl.length) (h8 : fl.length < 8192) :
    Calls Try.prog 15 #[.pointer (some ⟨g, 0, none⟩), .int .i64 (i : Int)] w fun x w' => x = .returned (.int .i64 0) ∧ IsN N (fun k => P k ∨ w.heap.size ≤ k) w' g (fl ++ [rd_T37 fl (i : Int)]) ∧ Below N w w' ∧ Kept w w' P := by
  have := net_Twice_ok h hi
  unfold twiceR twiceF at this
  rw [if_pos h8, if_pos h8] at this
  exact this
end Go.Proofs.Ythgdojaildccaaa.M
