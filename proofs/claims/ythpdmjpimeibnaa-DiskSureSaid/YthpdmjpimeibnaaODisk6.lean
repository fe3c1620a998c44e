/-
  What a disk refuses while it is down; a struct of four cells in memory; plain words on disks.
-/
import Derived.Test.YthpdmjpimeibnaaODisk5
namespace Go.Proofs.Ythpdmjpimeibnaa.M
open Go.RowKit Go.Proofs.YthpdmjpimeibnaaW.PrintWords Go.Proofs.YthpdmjpimeibnaaW.PrintLast Go.Proofs.YthpdmjpimeibnaaW.PrintMore
set_option linter.unusedVariables false
set_option linter.unusedSimpArgs false
set_option maxHeartbeats 4000000 in
set_option maxRecDepth 100000 in
theorem d_Write_down {P : Nat → Prop} {w : World} {g : Nat} {d : DS} {A : Option Addr} {c n : Nat} (h : IsD P w g d) (hd : d.down = true) :
    Calls Try.prog 14 #[.pointer (some ⟨g, 0, none⟩), .slice A n c] w fun x w' => x = .returned (.int .i64 60) ∧ IsD P w' g d ∧ Below w.heap.size w w' := by
  have D0 := Aside0.mk h
  have HB := Aside0.mk (below0 (Below.refl w.heap.size w)); have HK := Aside0.mk (Kept.refl w P)
  obtain ⟨vs, va, hcells, hP, hS, hA⟩ := h
  obtain ⟨As, cs, rfl⟩ := Kd.R_slice hS
  obtain ⟨Aa, ca, rfl⟩ := Kd.R_slice hA
  have PG := Aside0.mk hP; have HS := Aside0.mk hS; have HA := Aside0.mk hA; have HC := Aside0.mk hcells
  have hc4 : w.cell? ⟨g, 4, none⟩ = some (.bool d.down) := (blk_cell hcells 4).trans rfl; have hcf4 := blk_frozen hcells 4
  clear hcells hP hS hA

  rw [hd] at hc4
  clear hd
  go_enter Try.func14, Try.ntmps14
  go_wp2
  go_ret
  exact ⟨rfl, D0.out, Below.refl _ _⟩
set_option maxHeartbeats 4000000 in
set_option maxRecDepth 100000 in
theorem d_Renew_down {P : Nat → Prop} {w : World} {g : Nat} {d : DS} {A : Option Addr} {c n : Nat} (h : IsD P w g d) (hd : d.down = true) :
    Calls Try.prog 20 #[.pointer (some ⟨g, 0, none⟩), .slice A n c] w fun x w' => x = .returned (.int .i64 60) ∧ IsD P w' g d ∧ Below w.heap.size w w' := by
  have D0 := Aside0.mk h
  have HB := Aside0.mk (below0 (Below.refl w.heap.size w)); have HK := Aside0.mk (Kept.refl w P)
  obtain ⟨vs, va, hcells, hP, hS, hA⟩ := h
  obtain ⟨As, cs, rfl⟩ := Kd.R_slice hS
  obtain ⟨Aa, ca, rfl⟩ := Kd.R_slice hA
  have PG := Aside0.mk hP; have HS := Aside0.mk hS; have HA := Aside0.mk hA; have HC := Aside0.mk hcells
  have hc4 : w.cell? ⟨g, 4, none⟩ = some (.bool d.down) := (blk_cell hcells 4).trans rfl; have hcf4 := blk_frozen hcells 4
  clear hcells hP hS hA

  rw [hd] at hc4
  clear hd
  go_enter Try.func20, Try.ntmps20
  go_wp2
  go_ret
  exact ⟨rfl, D0.out, Below.refl _ _⟩
theorem s_Sync_down {P : Nat → Prop} {w : World} {g : Nat} {d : DS} {N : Nat} (h : IsD P w g d) (ho : d.Ok) (hd : d.down = true) (hP : ∀ k, P k → N ≤ k) (hN : N ≤ w.heap.size) :
    Calls Try.prog 15 #[.pointer (some ⟨g, 0, none⟩)] w fun x w' => x = .returned (.int .i64 60) ∧ IsD P w' g d ∧ Below N w w' :=
  (d_Sync_down h hd).mono fun x w' ⟨h1, h2, h3, h4⟩ => ⟨h1, h2, kept_belowN h4 h3 hP hN⟩
abbrev set4 (w : World) (g : Nat) (x y z u : Value) : World := (((w.setCell ⟨g, 0, none⟩ x).setCell ⟨g, 1, none⟩ y).setCell ⟨g, 2, none⟩ z).setCell ⟨g, 3, none⟩ u
theorem set4_blk {w : World} {g t : Nat} {a b c d : Value} (h : w.heap[g]? = some (.cells #[a, b, c, d] t (0, 0))) (x y z u : Value) : (set4 w g x y z u).heap[g]? = some (.cells #[x, y, z, u] t (0, 0)) :=
  blk_put (blk_put (blk_put (blk_put h 0 x (cs' := #[x, b, c, d]) rfl) 1 y (cs' := #[x, y, c, d]) rfl) 2 z (cs' := #[x, y, z, d]) rfl) 3 u rfl
theorem set4_kept (w : World) (g : Nat) (x y z u : Value) : Kept w (set4 w g x y z u) (fun k => k = g) :=
  ((((Kept.refl w (fun k => k = g)).setCell (p := ⟨g, 0, none⟩) (.inl rfl) x).setCell (p := ⟨g, 1, none⟩) (.inl rfl) y).setCell (p := ⟨g, 2, none⟩) (.inl rfl) z).setCell (p := ⟨g, 3, none⟩) (.inl rfl) u
theorem below_setB {B : Nat} {w W : World} (h : Below B w W) {p : Addr} (hp : B ≤ p.block) (u : Value) : Below B w (W.setCell p u) :=
  ⟨h.os, h.tape, h.output, by simpa [World.setCell] using h.size, fun k hk => (Below.heap_setCell W p u k (by omega)).trans (h.block k hk)⟩
theorem set4_below {B : Nat} {w W : World} {g : Nat} (h : Below B w W) (hg : B ≤ g) (x y z u : Value) : Below B w (set4 W g x y z u) :=
  below_setB (below_setB (below_setB (below_setB h (p := ⟨g, 0, none⟩) hg x) (p := ⟨g, 1, none⟩) hg y) (p := ⟨g, 2, none⟩) hg z) (p := ⟨g, 3, none⟩) hg u
theorem set4_size (w : World) (g : Nat) (x y z u : Value) : (set4 w g x y z u).heap.size = w.heap.size := by simp [set4, World.setCell]
theorem xor_zero {x : Int} (h : 0 ≤ x ∧ x < 256) : Go.bits .xor .u8 x 0 = x := by
  have key : ∀ m : Nat, m < 256 → Go.bits .xor .u8 (m : Int) 0 = (m : Int) := by decide +kernel
  obtain ⟨m, rfl⟩ := Int.eq_ofNat_of_zero_le h.1
  exact key m (by omega)
theorem rd_nat {l : List Int} {i : Nat} (h : i < l.length) : rd l (i : Int) = l[i] := by simp [rd, h]
/-- a crash that tears nothing off, and turns nothing -/
theorem crash_whole {d : DS} {keep : Int} (hr : d.renew = false) (hb : ∀ x ∈ d.all, 0 ≤ x ∧ x < 256) (hs : d.sure.length ≤ d.all.length) (hk : (d.all.length : Int) - d.sure.length ≤ keep) : d.crash keep 0 = { d with down := true, fuse := -1 } := by
  have ht : d.torn keep = d.all.length := by unfold DS.torn; omega
  unfold DS.crash
  rw [if_neg (by simp [hr]), ht, List.take_length]
  by_cases h : d.all.length > d.sure.length
  · rw [if_pos h, rd_nat (by omega), xor_zero (hb _ (List.getElem_mem _)), List.set_getElem_self]
  · rw [if_neg h]
theorem wf_u8 {l : List Int} (g : l.length * 1 ≤ 140737488351232 ∧ ∀ x ∈ l, (Lit.int .u8 x).wf = true) : ∀ x ∈ l, 0 ≤ x ∧ x < 256 := fun x hx => by
  have := g.2 x hx; simp [Lit.wf, IntKind.min, IntKind.max, IntKind.signed, IntKind.bits] at this; omega
end Go.Proofs.Ythpdmjpimeibnaa.M
