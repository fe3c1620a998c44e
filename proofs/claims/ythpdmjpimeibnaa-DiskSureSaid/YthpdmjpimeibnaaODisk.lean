/-
  A disk in memory, and what its methods come to.
-/
import Derived.Test.YthpdmjpimeibnaaMx1
import Derived.Test.YthpdmjpimeibnaaPEv
namespace Go.Proofs.Ythpdmjpimeibnaa.M
open Go.RowKit Go.Proofs.YthpdmjpimeibnaaW.PrintWords Go.Proofs.YthpdmjpimeibnaaW.PrintLast Go.Proofs.YthpdmjpimeibnaaW.PrintMore
set_option linter.unusedVariables false
set_option linter.unusedSimpArgs false
/-- what a disk has -/
structure DS where
  room : Int
  sure : List Int
  all : List Int
  renew : Bool
  down : Bool
  fuse : Int
/-- a disk at block g, all its blocks within P -/
def IsD (P : Nat → Prop) (w : World) (g : Nat) (d : DS) : Prop :=
  ∃ vs va : Value, w.heap[g]? = some (.cells #[.int .i64 d.room, vs, va, .bool d.renew, .bool d.down, .int .i64 d.fuse] 70 (0, 0)) ∧ P g ∧
    Kd.R (Kd.int .u8) 5 w 0 (fun k => P k ∧ some k ≠ va.ownBlock) vs d.sure ∧ Kd.R (Kd.int .u8) 5 w 0 (fun k => P k ∧ some k ≠ vs.ownBlock) va d.all
structure DS.Ok (d : DS) : Prop where
  room0 : 0 ≤ d.room
  room1 : d.room ≤ 4194304
  all_ : (d.all.length : Int) ≤ d.room
  sure_ : (d.sure.length : Int) ≤ d.room
  fuse0 : -1 ≤ d.fuse
  fuse1 : d.fuse ≤ 9223372036854775807
theorem below0_set {w W : World} (h : Below 0 w W) (p : Addr) (u : Value) : Below 0 w (W.setCell p u) := ⟨h.os, h.tape, h.output, by simpa [World.setCell] using h.size, fun k hk => absurd hk (Nat.not_lt_zero k)⟩
theorem below0 {B : Nat} {w W : World} (h : Below B w W) : Below 0 w W := ⟨h.os, h.tape, h.output, h.size, fun k hk => absurd hk (Nat.not_lt_zero k)⟩
/-- from a part to the whole -/
theorem below_kept {w0 w w' : World} {P : Nat → Prop} (h : Below w0.heap.size w0 w) (hb : Below 0 w w') (hk : Kept w w' P) (hP : ∀ k, P k → w0.heap.size ≤ k) : Below w0.heap.size w0 w' :=
  ⟨hb.os.trans h.os, hb.tape.trans h.tape, hb.output.trans h.output, Nat.le_trans h.size hb.size, fun k hk2 => (hk.2 k (Nat.lt_of_lt_of_le hk2 h.size) (fun q => absurd (hP k q) (Nat.not_le.mpr hk2))).trans (h.block k hk2)⟩
theorem IsD.lt {P : Nat → Prop} {w : World} {g : Nat} {d : DS} (h : IsD P w g d) : g < w.heap.size := by
  obtain ⟨vs, va, h1, -⟩ := h
  exact blk_lt h1
theorem IsD.mono {P P' : Nat → Prop} {w : World} {g : Nat} {d : DS} (h : IsD P w g d) (hp : ∀ k, P k → P' k) : IsD P' w g d := by
  obtain ⟨vs, va, h1, h2, h3, h4⟩ := h
  exact ⟨vs, va, h1, hp g h2, Kd.R_mono h3 (fun k hk => ⟨hp k hk.1, hk.2⟩), Kd.R_mono h4 (fun k hk => ⟨hp k hk.1, hk.2⟩)⟩
theorem IsD.kept {P S : Nat → Prop} {w w' : World} {g : Nat} {d : DS} (h : IsD P w g d) (hk : Kept w w' S) (hs : ∀ k, P k → ¬ S k) : IsD P w' g d := by
  obtain ⟨vs, va, h1, h2, h3, h4⟩ := h
  exact ⟨vs, va, (hk.2 g (blk_lt h1) (hs g h2)).trans h1, h2, Kd.R_kept h3 hk (fun k q => hs k q.1), Kd.R_kept h4 hk (fun k q => hs k q.1)⟩
theorem IsD.below {P : Nat → Prop} {w w' : World} {g : Nat} {d : DS} (h : IsD P w g d) (hb : Below w.heap.size w w') : IsD P w' g d := h.kept (Kept.of_below hb (fun _ => False)) (fun _ _ q => q)
theorem ne70 : ∀ q, q ∈ 5 :: (Kd.int .u8).E → q ≠ 70 := by decide
theorem IsD.setRenew {P : Nat → Prop} {w : World} {g : Nat} {d : DS} (h : IsD P w g d) (b : Bool) : IsD P (w.setCell ⟨g, 3, none⟩ (.bool b)) g { d with renew := b } := by
  obtain ⟨vs, va, h1, h2, h3, h4⟩ := h
  exact ⟨vs, va, blk_put h1 3 (.bool b) rfl, h2, Kd.R_set h3 h1 ne70 3 _, Kd.R_set h4 h1 ne70 3 _⟩
theorem IsD.setDown {P : Nat → Prop} {w : World} {g : Nat} {d : DS} (h : IsD P w g d) (b : Bool) : IsD P (w.setCell ⟨g, 4, none⟩ (.bool b)) g { d with down := b } := by
  obtain ⟨vs, va, h1, h2, h3, h4⟩ := h
  exact ⟨vs, va, blk_put h1 4 (.bool b) rfl, h2, Kd.R_set h3 h1 ne70 4 _, Kd.R_set h4 h1 ne70 4 _⟩
theorem IsD.setFuse {P : Nat → Prop} {w : World} {g : Nat} {d : DS} (h : IsD P w g d) (n : Int) : IsD P (w.setCell ⟨g, 5, none⟩ (.int .i64 n)) g { d with fuse := n } := by
  obtain ⟨vs, va, h1, h2, h3, h4⟩ := h
  exact ⟨vs, va, blk_put h1 5 (.int .i64 n) rfl, h2, Kd.R_set h3 h1 ne70 5 _, Kd.R_set h4 h1 ne70 5 _⟩
theorem kept_set {w W : World} {P : Nat → Prop} {g : Nat} (h : Kept w W P) (hg : P g) (j : Nat) (u : Value) : Kept w (W.setCell ⟨g, j, none⟩ u) P := h.setCell (p := ⟨g, j, none⟩) (.inl hg) u
theorem new_kept {W w1 : World} (P : Nat → Prop) (hb : Below W.heap.size W w1) : Kept W w1 P := Kept.of_below hb P
/-- a new row in the place of what is there for sure -/
theorem IsD.newSure {P : Nat → Prop} {W w1 : World} {g : Nat} {d : DS} {okv : Nat → Prop} {v : Value} {xs : List Int} (h : IsD P W g d) (hv : Kd.R (Kd.int .u8) 5 w1 W.heap.size okv v xs) (hb : Below W.heap.size W w1) :
    IsD (fun k => P k ∨ W.heap.size ≤ k) (w1.setCell ⟨g, 1, none⟩ v) g { d with sure := xs } := by
  obtain ⟨vs, va, h1, h2, h3, h4⟩ := h
  have h1' := blk_below h1 hb
  exact ⟨v, va, blk_put h1' 1 v rfl, .inl h2, Kd.R_set (Kd.R_mono (Kd.R_lower (Kd.R_bound (Kd.R_newR hv h4)) (Nat.zero_le _)) (fun k hk => ⟨.inr hk.2.1, hk.1.2⟩)) h1' ne70 1 _, Kd.R_set (Kd.R_mono (Kd.R_elder h4 hv hb) (fun k hk => ⟨.inl hk.1.1, hk.2⟩)) h1' ne70 1 _⟩
/-- a new row in the place of all -/
theorem IsD.newAll {P : Nat → Prop} {W w1 : World} {g : Nat} {d : DS} {okv : Nat → Prop} {v : Value} {xs : List Int} (h : IsD P W g d) (hv : Kd.R (Kd.int .u8) 5 w1 W.heap.size okv v xs) (hb : Below W.heap.size W w1) :
    IsD (fun k => P k ∨ W.heap.size ≤ k) (w1.setCell ⟨g, 2, none⟩ v) g { d with all := xs } := by
  obtain ⟨vs, va, h1, h2, h3, h4⟩ := h
  have h1' := blk_below h1 hb
  exact ⟨vs, v, blk_put h1' 2 v rfl, .inl h2, Kd.R_set (Kd.R_mono (Kd.R_elder h3 hv hb) (fun k hk => ⟨.inl hk.1.1, hk.2⟩)) h1' ne70 2 _, Kd.R_set (Kd.R_mono (Kd.R_lower (Kd.R_bound (Kd.R_newR hv h3)) (Nat.zero_le _)) (fun k hk => ⟨.inr hk.2.1, hk.1.2⟩)) h1' ne70 2 _⟩
def DS.burn (d : DS) (n : Int) : DS × Int × Bool := if d.fuse < 0 then (d, n, true) else if n > d.fuse then ({ d with fuse := -1, down := true }, d.fuse, false) else ({ d with fuse := d.fuse - n }, n, true)
set_option maxHeartbeats 4000000 in
set_option maxRecDepth 100000 in
theorem d_burn {P : Nat → Prop} {w : World} {g : Nat} {d : DS} {n : Int} (h : IsD P w g d) (ho : d.Ok) (hn : 0 ≤ n) :
    Calls Try.prog 40 #[.pointer (some ⟨g, 0, none⟩), .int .i64 n] w fun x w' => x = .returned (.tuple #[.int .i64 (d.burn n).2.1, .bool (d.burn n).2.2]) ∧ IsD P w' g (d.burn n).1 ∧ Kept w w' P ∧ Below 0 w w' := by
  have hb0 := below0 (Below.refl w.heap.size w)
  have hk0 := Kept.refl w P
  have D0 := Aside0.mk h
  obtain ⟨vs, va, hcells, hP, -, -⟩ := h
  have PG := Aside0.mk hP
  have hc5 : w.cell? ⟨g, 5, none⟩ = some (.int .i64 d.fuse) := (blk_cell hcells 5).trans rfl
  have hc4 : w.cell? ⟨g, 4, none⟩ = some (.bool d.down) := (blk_cell hcells 4).trans rfl
  have hf5 := blk_frozen hcells 5
  have hf4 := blk_frozen hcells 4
  have HB := Aside0.mk hb0; have HK := Aside0.mk hk0
  clear hcells hb0 hk0 hP
  unfold DS.burn
  by_cases h1 : d.fuse < 0
  · have t1 : decide (d.fuse < 0) = true := decide_eq_true h1
    rw [if_pos h1]
    clear h1
    go_enter Try.func40, Try.ntmps40
    go_wp2
    go_ret2
    exact ⟨rfl, D0.out, HK.out, HB.out⟩
  · have t1 : decide (d.fuse < 0) = false := decide_eq_false h1
    rw [if_neg h1]
    by_cases h2 : n > d.fuse
    · have t2 : decide (n > d.fuse) = true := decide_eq_true h2
      have t3 : decide (d.fuse < n) = true := decide_eq_true h2
      rw [if_pos h2]
      clear h1 h2
      go_enter Try.func40, Try.ntmps40
      go_wp2
      go_ret2
      exact ⟨rfl, (D0.out.setFuse (-1)).setDown true, kept_set (kept_set HK.out PG.out 5 _) PG.out 4 _, below0_set (below0_set HB.out _ _) _ _⟩
    · have t2 : decide (n > d.fuse) = false := decide_eq_false h2
      have t3 : decide (d.fuse < n) = false := decide_eq_false h2
      have t4 : wrap64 (d.fuse - n) = d.fuse - n := by have := ho.fuse1; unfold wrap64; omega
      rw [if_neg h2]
      clear h1 h2
      go_enter Try.func40, Try.ntmps40
      go_wp2
      go_ret2
      exact ⟨rfl, D0.out.setFuse (d.fuse - n), kept_set HK.out PG.out 5 _, below0_set HB.out _ _⟩
end Go.Proofs.Ythpdmjpimeibnaa.M
