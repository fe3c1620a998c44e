/-
  A disk's methods, in a form for laws: N bounds the disk's blocks from below.
-/
import Derived.Test.YthpdmjpimeibnaaODisk4
namespace Go.Proofs.Ythpdmjpimeibnaa.M
open Go.RowKit Go.Proofs.YthpdmjpimeibnaaW.PrintWords Go.Proofs.YthpdmjpimeibnaaW.PrintLast Go.Proofs.YthpdmjpimeibnaaW.PrintMore
set_option linter.unusedVariables false
set_option linter.unusedSimpArgs false
theorem kept_belowN {w w' : World} {P : Nat → Prop} {N : Nat} (hb : Below 0 w w') (hk : Kept w w' P) (hP : ∀ k, P k → N ≤ k) (hN : N ≤ w.heap.size) : Below N w w' :=
  ⟨hb.os, hb.tape, hb.output, hb.size, fun k hk2 => hk.2 k (Nat.lt_of_lt_of_le hk2 hN) (fun q => absurd (hP k q) (Nat.not_le.mpr hk2))⟩
variable {P : Nat → Prop} {N : Nat} {w : World} {g : Nat} {d : DS}
theorem IsD.up_ {w' : World} {d' : DS} (hP : ∀ k, P k → N ≤ k) (hN : N ≤ w.heap.size) (h : IsD (fun k => P k ∨ w.heap.size ≤ k) w' g d') : IsD (fun k => N ≤ k) w' g d' := h.mono (fun k hk => hk.elim (hP k) (fun q => Nat.le_trans hN q))
theorem s_Write {A : Option Addr} {c : Nat} {b : List Int} (h : IsD P w g d) (ho : d.Ok) (hP : ∀ k, P k → N ≤ k) (hN : N ≤ w.heap.size) (hb : ∀ w', Kept w w' P → Kd.C (Kd.int .u8) w' A b.length b) (hbc : b.length ≤ c) (hbl : b.length < 4194304) :
    Calls Try.prog 14 #[.pointer (some ⟨g, 0, none⟩), .slice A b.length c] w fun x w' => x = .returned (.int .i64 (d.write b).2) ∧ IsD (fun k => N ≤ k) w' g (d.write b).1 ∧ Below N w w' :=
  (d_Write h ho (hb w (Kept.refl w P)) hbc hbl hb).mono fun x w' ⟨h1, h2, h3, h4⟩ => ⟨h1, h2.up_ hP hN, kept_belowN h4 h3 hP hN⟩
theorem s_Renew {A : Option Addr} {c : Nat} {b : List Int} (h : IsD P w g d) (ho : d.Ok) (hP : ∀ k, P k → N ≤ k) (hN : N ≤ w.heap.size) (hb : ∀ w', Kept w w' P → Kd.C (Kd.int .u8) w' A b.length b) (hbc : b.length ≤ c) (hbl : b.length < 4194304) :
    Calls Try.prog 20 #[.pointer (some ⟨g, 0, none⟩), .slice A b.length c] w fun x w' => x = .returned (.int .i64 (d.renewW b).2) ∧ IsD (fun k => N ≤ k) w' g (d.renewW b).1 ∧ Below N w w' :=
  (d_Renew h ho hbc hbl hb).mono fun x w' ⟨h1, h2, h3, h4⟩ => ⟨h1, h2.up_ hP hN, kept_belowN h4 h3 hP hN⟩
def DS.sync (d : DS) : DS × Int := if d.down = true then (d, 60) else ({ d with sure := d.all, renew := false }, 0)
theorem s_Sync (h : IsD P w g d) (ho : d.Ok) (hP : ∀ k, P k → N ≤ k) (hN : N ≤ w.heap.size) :
    Calls Try.prog 15 #[.pointer (some ⟨g, 0, none⟩)] w fun x w' => x = .returned (.int .i64 d.sync.2) ∧ IsD (fun k => N ≤ k) w' g d.sync.1 ∧ Below N w w' := by
  unfold DS.sync
  by_cases hd : d.down = true
  · rw [if_pos hd]
    exact (d_Sync_down h hd).mono fun x w' ⟨h1, h2, h3, h4⟩ => ⟨h1, h2.mono hP, kept_belowN h4 h3 hP hN⟩
  · rw [if_neg hd]
    exact (d_Sync h ho (by simpa using hd)).mono fun x w' ⟨h1, h2, h3, h4⟩ => ⟨h1, h2.up_ hP hN, kept_belowN h4 h3 hP hN⟩
theorem s_Fuse {n : Int} (h : IsD P w g d) (hP : ∀ k, P k → N ≤ k) (hN : N ≤ w.heap.size) :
    Calls Try.prog 24 #[.pointer (some ⟨g, 0, none⟩), .int .i64 n] w fun x w' => x = .returned (.tuple #[]) ∧ IsD (fun k => N ≤ k) w' g { d with fuse := mx n (-1) } ∧ Below N w w' :=
  (d_Fuse h).mono fun x w' ⟨h1, h2, h3, h4⟩ => ⟨h1, h2.mono hP, kept_belowN h4 h3 hP hN⟩
theorem s_Crash {keep turn : Int} (h : IsD P w g d) (ho : d.Ok) (hpre : d.renew = false → d.sure.length ≤ d.all.length) (ht : 0 ≤ turn ∧ turn < 256) (hP : ∀ k, P k → N ≤ k) (hN : N ≤ w.heap.size) :
    Calls Try.prog 16 #[.pointer (some ⟨g, 0, none⟩), .int .i64 keep, .int .u8 turn] w fun x w' => x = .returned (.tuple #[]) ∧ IsD (fun k => N ≤ k) w' g (d.crash keep turn) ∧ Below N w w' :=
  (d_Crash h ho hpre ht).mono fun x w' ⟨h1, h2, h3, h4⟩ => ⟨h1, h2.up_ hP hN, kept_belowN h4 h3 hP hN⟩
theorem s_Up (h : IsD P w g d) (ho : d.Ok) (hP : ∀ k, P k → N ≤ k) (hN : N ≤ w.heap.size) :
    Calls Try.prog 17 #[.pointer (some ⟨g, 0, none⟩)] w fun x w' => x = .returned (.tuple #[]) ∧ IsD (fun k => N ≤ k) w' g d.up ∧ Below N w w' :=
  (d_Up h ho).mono fun x w' ⟨h1, h2, h3, h4⟩ => ⟨h1, h2.up_ hP hN, kept_belowN h4 h3 hP hN⟩
theorem s_Read_down (h : IsD P w g d) (hd : d.down = true) : Calls Try.prog 18 #[.pointer (some ⟨g, 0, none⟩)] w fun x w' => x = .returned (.tuple #[.slice none 0 0, .int .i64 60]) ∧ IsD P w' g d ∧ Below w.heap.size w w' := d_Read_down h hd
/-- a row that came in stays readable while the disk's blocks change -/
theorem came {w0 w : World} {A : Option Addr} {l : List Int} (h : Kd.C (Kd.int .u8) w0 A l.length l) (hb : Below w0.heap.size w0 w) {S : Nat → Prop} (hS : ∀ k, S k → w0.heap.size ≤ k) : ∀ W', Kept w W' S → Kd.C (Kd.int .u8) W' A l.length l := fun W' hk => by
  obtain ⟨h1, h2, h3⟩ := h
  refine ⟨h1, h2, fun hn => ?_⟩
  obtain ⟨ad, hA, hc⟩ := h3 hn
  refine ⟨ad, hA, fun j p hp => ?_⟩
  obtain ⟨c, hl, hR, hcell⟩ := hc j p hp
  obtain rfl : c = [.int .u8 p] := hR
  refine ⟨_, hl, rfl, fun i u hu => ?_⟩
  have hlt := World.block_lt_of_cell? _ _ (hcell i u hu)
  exact cell_kept (by have := hcell i u hu; unfold World.cell? at this ⊢; rw [hb.block _ hlt]; exact this) hk (fun q => absurd (hS _ q) (Nat.not_le.mpr hlt))
theorem write_free {b : List Int} (hd : d.down = false) (hf : d.fuse < 0) (hl : (b.length : Int) ≤ d.room - d.all.length) : d.write b = ({ d with all := d.all ++ b }, 0) := by
  unfold DS.write DS.burn
  rw [if_neg (by simp [hd]), if_neg (by omega), if_pos hf]
  simp
/-- the small head's row of two bytes -/
theorem own_lit {W : World} {A : Option Addr} {n c M : Nat} {xs : List Int} (h : Kd.R (Kd.int .u8) 5 W M (fun _ => True) (.slice A n c) xs) {S : Nat → Prop} (hS : ∀ k, S k → k < M) : ∀ W', Kept W W' S → Kd.C (Kd.int .u8) W' A n xs :=
  Kd.C_kept_own (Kd.R_bound h) (fun k hk q => absurd (hS k q) (Nat.not_lt.mpr hk.2.1))
end Go.Proofs.Ythpdmjpimeibnaa.M
