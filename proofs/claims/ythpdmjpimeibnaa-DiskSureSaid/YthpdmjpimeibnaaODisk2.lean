/-
  What a disk's methods come to.
-/
import Derived.Test.YthpdmjpimeibnaaODisk
namespace Go.Proofs.Ythpdmjpimeibnaa.M
open Go.RowKit Go.Proofs.YthpdmjpimeibnaaW.PrintWords Go.Proofs.YthpdmjpimeibnaaW.PrintLast Go.Proofs.YthpdmjpimeibnaaW.PrintMore
set_option linter.unusedVariables false
set_option linter.unusedSimpArgs false
attribute [local go_sem] max2_int min2_int max_two min_two   -- for this text alone

theorem IsD.slices {P : Nat → Prop} {w : World} {g : Nat} {d : DS} (h : IsD P w g d) : ∃ As cs Aa ca, w.heap[g]? = some (.cells #[.int .i64 d.room, .slice As d.sure.length cs, .slice Aa d.all.length ca, .bool d.renew, .bool d.down, .int .i64 d.fuse] 70 (0, 0)) := by
  obtain ⟨vs, va, hcells, hP, hS, hA⟩ := h
  obtain ⟨As, cs, rfl⟩ := Kd.R_slice hS
  obtain ⟨Aa, ca, rfl⟩ := Kd.R_slice hA
  exact ⟨As, cs, Aa, ca, hcells⟩
set_option maxHeartbeats 4000000 in
set_option maxRecDepth 100000 in
theorem d_Down {P : Nat → Prop} {w : World} {g : Nat} {d : DS} (h : IsD P w g d) :
    Calls Try.prog 21 #[.pointer (some ⟨g, 0, none⟩)] w fun x w' => x = .returned (.bool d.down) ∧ IsD P w' g d ∧ Below w.heap.size w w' := by
  have D0 := Aside0.mk h
  have HB := Aside0.mk (below0 (Below.refl w.heap.size w)); have HK := Aside0.mk (Kept.refl w P)
  obtain ⟨vs, va, hcells, hP, hS, hA⟩ := h
  obtain ⟨As, cs, rfl⟩ := Kd.R_slice hS
  obtain ⟨Aa, ca, rfl⟩ := Kd.R_slice hA
  have PG := Aside0.mk hP; have HS := Aside0.mk hS; have HA := Aside0.mk hA; have HC := Aside0.mk hcells
  have hc4 : w.cell? ⟨g, 4, none⟩ = some (.bool d.down) := (blk_cell hcells 4).trans rfl; have hcf4 := blk_frozen hcells 4
  clear hcells hP hS hA

  go_enter Try.func21, Try.ntmps21
  go_wp2
  go_ret
  exact ⟨rfl, D0.out, Below.refl _ _⟩
set_option maxHeartbeats 4000000 in
set_option maxRecDepth 100000 in
theorem d_Sure {P : Nat → Prop} {w : World} {g : Nat} {d : DS} (h : IsD P w g d) :
    Calls Try.prog 22 #[.pointer (some ⟨g, 0, none⟩)] w fun x w' => x = .returned (.int .i64 (d.sure.length : Int)) ∧ IsD P w' g d ∧ Below w.heap.size w w' := by
  have D0 := Aside0.mk h
  have HB := Aside0.mk (below0 (Below.refl w.heap.size w)); have HK := Aside0.mk (Kept.refl w P)
  obtain ⟨vs, va, hcells, hP, hS, hA⟩ := h
  obtain ⟨As, cs, rfl⟩ := Kd.R_slice hS
  obtain ⟨Aa, ca, rfl⟩ := Kd.R_slice hA
  have PG := Aside0.mk hP; have HS := Aside0.mk hS; have HA := Aside0.mk hA; have HC := Aside0.mk hcells
  have hc1 : w.cell? ⟨g, 1, none⟩ = some (.slice As d.sure.length cs) := (blk_cell hcells 1).trans rfl; have hcf1 := blk_frozen hcells 1
  clear hcells hP hS hA

  go_enter Try.func22, Try.ntmps22
  go_wp2
  go_ret
  exact ⟨rfl, D0.out, Below.refl _ _⟩
set_option maxHeartbeats 4000000 in
set_option maxRecDepth 100000 in
theorem d_Room {P : Nat → Prop} {w : World} {g : Nat} {d : DS} (h : IsD P w g d) (ho : d.Ok) :
    Calls Try.prog 19 #[.pointer (some ⟨g, 0, none⟩)] w fun x w' => x = .returned (.int .i64 (d.room - d.all.length)) ∧ IsD P w' g d ∧ Below w.heap.size w w' := by
  have D0 := Aside0.mk h
  have HB := Aside0.mk (below0 (Below.refl w.heap.size w)); have HK := Aside0.mk (Kept.refl w P)
  obtain ⟨vs, va, hcells, hP, hS, hA⟩ := h
  obtain ⟨As, cs, rfl⟩ := Kd.R_slice hS
  obtain ⟨Aa, ca, rfl⟩ := Kd.R_slice hA
  have PG := Aside0.mk hP; have HS := Aside0.mk hS; have HA := Aside0.mk hA; have HC := Aside0.mk hcells
  have hc0 : w.cell? ⟨g, 0, none⟩ = some (.int .i64 d.room) := (blk_cell hcells 0).trans rfl; have hcf0 := blk_frozen hcells 0; have hc2 : w.cell? ⟨g, 2, none⟩ = some (.slice Aa d.all.length ca) := (blk_cell hcells 2).trans rfl; have hcf2 := blk_frozen hcells 2
  clear hcells hP hS hA

  have t1 : wrap64 (d.room - (d.all.length : Int)) = d.room - (d.all.length : Int) := by have := ho.room1; have := ho.room0; have := ho.all_; unfold wrap64; omega
  clear ho
  go_enter Try.func19, Try.ntmps19
  go_wp2
  repeat (go_quiet (first | fail))
  go_wp2
  go_ret
  exact ⟨congrArg (fun z => Ending.returned (Value.int .i64 z)) t1, D0.out.below (pw_below_drewN (Below.refl w.heap.size w) _), pw_below_drewN (Below.refl w.heap.size w) _⟩
set_option maxHeartbeats 4000000 in
set_option maxRecDepth 100000 in
theorem d_Fuse {P : Nat → Prop} {w : World} {g : Nat} {d : DS} {n : Int} (h : IsD P w g d) :
    Calls Try.prog 24 #[.pointer (some ⟨g, 0, none⟩), .int .i64 n] w fun x w' => x = .returned (.tuple #[]) ∧ IsD P w' g { d with fuse := mx n (-1) } ∧ Kept w w' P ∧ Below 0 w w' := by
  have D0 := Aside0.mk h
  have HB := Aside0.mk (below0 (Below.refl w.heap.size w)); have HK := Aside0.mk (Kept.refl w P)
  obtain ⟨vs, va, hcells, hP, hS, hA⟩ := h
  obtain ⟨As, cs, rfl⟩ := Kd.R_slice hS
  obtain ⟨Aa, ca, rfl⟩ := Kd.R_slice hA
  have PG := Aside0.mk hP; have HS := Aside0.mk hS; have HA := Aside0.mk hA; have HC := Aside0.mk hcells
  have hc5 : w.cell? ⟨g, 5, none⟩ = some (.int .i64 d.fuse) := (blk_cell hcells 5).trans rfl; have hcf5 := blk_frozen hcells 5
  clear hcells hP hS hA

  by_cases hn : n < -1
  · have q := eq_true hn
    have e : mx n (-1) = -1 := by unfold mx; rw [if_pos hn]
    rw [e]
    clear hn e
    go_enter Try.func24, Try.ntmps24
    go_wp2
    go_end0
    exact ⟨rfl, D0.out.setFuse (-1), kept_set HK.out PG.out 5 _, below0_set HB.out _ _⟩
  · have q := eq_false hn
    have e : mx n (-1) = n := by unfold mx; rw [if_neg hn]
    rw [e]
    clear hn e
    go_enter Try.func24, Try.ntmps24
    go_wp2
    go_end0
    exact ⟨rfl, D0.out.setFuse n, kept_set HK.out PG.out 5 _, below0_set HB.out _ _⟩
set_option maxHeartbeats 4000000 in
set_option maxRecDepth 100000 in
theorem disk_New {n : Int} (w : World) (h0 : 0 ≤ n) (h1 : n ≤ 4194304) :
    Calls Try.prog 13 #[.int .i64 n] w fun x w' => ∃ g, x = .returned (.tuple #[.pointer (some ⟨g, 0, none⟩), .int .i64 0]) ∧ w.heap.size ≤ g ∧ IsD (fun k => w.heap.size ≤ k) w' g ⟨n, [], [], false, false, -1⟩ ∧ Below w.heap.size w w' := by
  have HB := Aside0.mk (Below.refl w.heap.size w)
  have t1 : decide (n < 0) = false := decide_eq_false (by omega)
  have t2 : decide (n > 4194304) = false := decide_eq_false (by omega)
  have t3 : decide (4194304 < n) = false := decide_eq_false (by omega)
  clear h0 h1
  go_enter Try.func13, Try.ntmps13
  go_wp2_with (first | ((with_reducible refine gate_dst (N := 12) rfl ?_); refine box_event ?hg (N := 12) ?hd (cs := #[.int .i64 n, .slice none 0 0, .slice none 0 0, .bool false, .bool false, .int .i64 (-1)]) (t := 70) ?hr ?_; (case hd => rfl); (case hg => rfl); (case hr => first | (go_simp; done) | (go_simp; rfl)); intro gb hg w3 hbox hb; have B3 := Aside0.mk (below_step HB.out hb); have K3 := Aside0.mk hbox; have GB := Aside0.mk (show w.heap.size ≤ gb from by rw [hg]; exact Nat.le_refl _); clear hg hbox hb))
  go_ret2
  exact ⟨gb, rfl, GB.out, ⟨_, _, K3.out, GB.out, Kd.R_nil _ _ _ _ _, Kd.R_nil _ _ _ _ _⟩, B3.out⟩
set_option maxHeartbeats 4000000 in
set_option maxRecDepth 100000 in
theorem d_Sync {P : Nat → Prop} {w : World} {g : Nat} {d : DS} (h : IsD P w g d) (ho : d.Ok) (hd : d.down = false) :
    Calls Try.prog 15 #[.pointer (some ⟨g, 0, none⟩)] w fun x w' => x = .returned (.int .i64 0) ∧ IsD (fun k => P k ∨ w.heap.size ≤ k) w' g { d with sure := d.all, renew := false } ∧ Kept w w' P ∧ Below 0 w w' := by
  have D0 := Aside0.mk h
  have HB := Aside0.mk (below0 (Below.refl w.heap.size w)); have HK := Aside0.mk (Kept.refl w P)
  obtain ⟨vs, va, hcells, hP, hS, hA⟩ := h
  obtain ⟨As, cs, rfl⟩ := Kd.R_slice hS
  obtain ⟨Aa, ca, rfl⟩ := Kd.R_slice hA
  have PG := Aside0.mk hP; have HS := Aside0.mk hS; have HA := Aside0.mk hA; have HC := Aside0.mk hcells
  have hc2 : w.cell? ⟨g, 2, none⟩ = some (.slice Aa d.all.length ca) := (blk_cell hcells 2).trans rfl; have hcf2 := blk_frozen hcells 2; have hc4 : w.cell? ⟨g, 4, none⟩ = some (.bool d.down) := (blk_cell hcells 4).trans rfl; have hcf4 := blk_frozen hcells 4
  clear hcells hP hS hA

  have ho_ := Aside0.mk ho
  rw [hd] at hc4
  clear ho hd
  go_enter Try.func15, Try.ntmps15
  go_wp2_with (first | ((with_reducible refine gate_dst (N := 9) rfl ?_); refine Kd.R_lit (Kd.int .u8) _ 5 ?hg (N := 9) ?hd (xs := ([] : List Int)) (inner := []) (ok := fun _ => True) (okp := fun _ => True) ?hr ?hp (fun _ hk => hk) trivial (Below.refl _ _) (Nat.le_refl _) (by simp) ?_; (case hd => rfl); (case hg => rfl); (case hr => first | (go_simp; done) | (go_simp; rfl)); (case hp => exact (Reps.none _ _)); intro vL wL hoL hbL hg_ hnew_; clear hg_ hnew_; have BL := Aside0.mk hbL; have OL := Aside0.mk hoL; have DL := Aside0.mk (D0.out.below hbL); have CL := Aside0.mk (Kd.C_below (Kd.R_reads' HA.out).2.2 hbL); have hcL := blk_below HC.out hbL; have hl1 : wL.cell? ⟨g, 1, none⟩ = some (.slice As d.sure.length cs) := (blk_cell hcL 1).trans rfl; have hlf1 := blk_frozen hcL 1; have hl2 : wL.cell? ⟨g, 2, none⟩ = some (.slice Aa d.all.length ca) := (blk_cell hcL 2).trans rfl; have hlf2 := blk_frozen hcL 2; have hl3 : wL.cell? ⟨g, 3, none⟩ = some (.bool d.renew) := (blk_cell hcL 3).trans rfl; have hlf3 := blk_frozen hcL 3; clear hcL hbL hoL) | ((with_reducible refine gate_builtin (b := .append) (xs := #[.tmp 9, .tmp 13]) rfl ?_); at_builtin; refine Kd.R_append_rows (Kd.int .u8) (w0 := w) w.heap.size rfl (.tmp 9) (.tmp 13) 22 5 (.int .u8 0) 1 rfl Try.underlying22 info5 rfl (by decide) (by omega) (vL) ([]) (d.all) _ _ _ (fun _ => True) (fun _ => False) rfl rfl ?aO ?aR (fun _ _ h => h) (fun _ h => h.elim) ?aF ?aB ?aS ?aL ?_; (case aR => exact CL.out); (case aB => exact BL.out); (case aF => exact (fun _ _ => trivial)); (case aO => exact OL.out); (case aS => exact (BL.out).size); (case aL => (have := ho_.out.all_; have := ho_.out.room1; simp only [List.length_nil]; omega)); intro v2 w2 ho hb hg hat; clear hg hat; rw [List.nil_append] at ho; obtain ⟨A2, c2, e2_⟩ := Kd.R_slice ho; subst e2_; have B2 := Aside0.mk hb; have O2 := Aside0.mk ho; have hc2 := blk_below HC.out hb; have hm1 : w2.cell? ⟨g, 1, none⟩ = some (.slice As d.sure.length cs) := (blk_cell hc2 1).trans rfl; have hmf1 := blk_frozen hc2 1; have hm2 : w2.cell? ⟨g, 2, none⟩ = some (.slice Aa d.all.length ca) := (blk_cell hc2 2).trans rfl; have hmf2 := blk_frozen hc2 2; have hm3 : w2.cell? ⟨g, 3, none⟩ = some (.bool d.renew) := (blk_cell hc2 3).trans rfl; have hmf3 := blk_frozen hc2 3; clear hc2 hb ho))
  go_ret
  exact ⟨rfl, (D0.out.newSure O2.out B2.out).setRenew false, kept_set (kept_set (new_kept P B2.out) PG.out 1 _) PG.out 3 _, below0_set (below0_set (below0 B2.out) _ _) _ _⟩
set_option maxHeartbeats 4000000 in
set_option maxRecDepth 100000 in
theorem d_Sync_down {P : Nat → Prop} {w : World} {g : Nat} {d : DS} (h : IsD P w g d) (hd : d.down = true) :
    Calls Try.prog 15 #[.pointer (some ⟨g, 0, none⟩)] w fun x w' => x = .returned (.int .i64 60) ∧ IsD P w' g d ∧ Kept w w' P ∧ Below 0 w w' := by
  have D0 := Aside0.mk h
  have HB := Aside0.mk (below0 (Below.refl w.heap.size w)); have HK := Aside0.mk (Kept.refl w P)
  obtain ⟨vs, va, hcells, hP, hS, hA⟩ := h
  obtain ⟨As, cs, rfl⟩ := Kd.R_slice hS
  obtain ⟨Aa, ca, rfl⟩ := Kd.R_slice hA
  have PG := Aside0.mk hP; have HS := Aside0.mk hS; have HA := Aside0.mk hA; have HC := Aside0.mk hcells
  have hc4 : w.cell? ⟨g, 4, none⟩ = some (.bool d.down) := (blk_cell hcells 4).trans rfl; have hcf4 := blk_frozen hcells 4
  clear hcells hP hS hA

  rw [hd] at hc4
  clear hd
  go_enter Try.func15, Try.ntmps15
  go_wp2
  go_ret
  exact ⟨rfl, D0.out, HK.out, HB.out⟩
end Go.Proofs.Ythpdmjpimeibnaa.M
