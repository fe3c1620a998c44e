/-
  NetPlays' round, case by case (1): a net in which anything happens has just the packets that were sent and not taken, in order, and one more of each that is there twice.
-/
import Derived.Test.YthgdojaildccaaaPLent
import Derived.Test.YthgdojaildccaaaRowNetPlays
namespace Go.Proofs.Ythgdojaildccaaa.Pure
open Go.RowKit Go.Proofs.Ythgdojaildccaaa.M Go.Proofs.YthgdojaildccaaaW.PrintWords Go.Proofs.YthgdojaildccaaaW.PrintLast Go.Proofs.YthgdojaildccaaaW.PrintMore
set_option linter.unusedVariables false
set_option linter.unusedSimpArgs false
theorem cell_bel {w w' : World} {a : Addr} {v : Value} (h : w.cell? a = some v) (hb : Below w.heap.size w w') : w'.cell? a = some v :=
  (cell_of_heap (hb.block _ (World.block_lt_of_cell? _ _ h))).trans h
theorem fit_of {x : S37} (h : G37 x) : Fit x := by
  have h8 := h.2.2.2.2.2.2.2.2.2.2.2.2.1.1
  have h9 := h.2.2.2.2.2.2.2.2.2.2.2.2.2.1
  unfold Fit
  omega
theorem at_range {xs : List S28} {i : Nat} (h : i < xs.length) : rd_T28 xs (i : Int) ∈ xs := by
  rw [show rd_T28 xs (i : Int) = xs[i] by simp [rd_T28, h]]; exact List.getElem_mem _
theorem at_range37 {xs : List S37} {i : Nat} (h : i < xs.length) : rd_T37 xs (i : Int) ∈ xs := by
  rw [show rd_T37 xs (i : Int) = xs[i] by simp [rd_T37, h]]; exact List.getElem_mem _
theorem fit_app {a b : List S37} (ha : ∀ q ∈ a, Fit q) (hb : ∀ q ∈ b, Fit q) : ∀ q ∈ a ++ b, Fit q := fun q hq => (List.mem_append.1 hq).elim (ha q) (hb q)
theorem fit_erase {a : List S37} {j : Nat} (ha : ∀ q ∈ a, Fit q) : ∀ q ∈ a.take j ++ a.drop (j + 1), Fit q := fun q hq => (List.mem_append.1 hq).elim (fun h => ha q (List.mem_of_mem_take h)) (fun h => ha q (List.mem_of_mem_drop h))
/-- the loop over the script: its round -/
def firstLoop : Code → Option Code
  | .loop c => some c
  | .seq a b => match firstLoop a with
    | some c => some c
    | none => firstLoop b
  | .block _ c => firstLoop c
  | .scope c => firstLoop c
  | .cond _ a b => match firstLoop a with
    | some c => some c
    | none => firstLoop b
  | _ => none
noncomputable def npBody : Code := ((Try.f3.body.bind firstLoop).getD .skip)
set_option maxHeartbeats 16000000 in
set_option maxRecDepth 100000 in
theorem np_0neg {w wr : World} {l0 : List S28} {c0 g3 i c4 c2 : Nat} {ms ps : List S37} {A4 A2 : Option Addr} {ad0 : Addr} {ok_ oi : Int} {u2 u6 u7 u8 u9 u10 u11 u12 u24 u25 u26 u27 u28 u29 u30 u31 u32 u33 u34 u35 u36 u37 u38 u39 u40 u41 u42 u43 u44 u45 u46 u47 u48 u49 u50 u51 u52 u53 u54 u55 u56 u57 u58 u59 u60 u61 u62 u63 u64 u65 u66 u67 u68 u69 u70 u71 u72 u73 u74 u75 u76 u77 u78 u79 u80 u81 u82 u83 u84 u85 u86 u87 u88 u89 u90 u91 u92 u93 u94 u95 u96 u97 u98 u99 u100 u101 u102 u103 u104 u105 u106 u107 u108 u109 u110 u111 u112 u113 u114 u115 u116 u117 u118 u119 u120 u121 u122 u123 u124 u125 u126 u127 u128 u129 u130 u131 u132 u133 u134 u135 u136 u137 u138 u139 u140 u141 u142 u143 u144 u145 u146 u147 u148 u149 u150 u151 u152 u153 u154 u155 u156 u157 u158 u159 u160 u161 u162 u163 u164 u165 u166 : Value} {K K1 : Act → World → Prop}
    (hi : i < l0.length) (h60 : l0.length ≤ 60) (hl : ms.length ≤ 50 * i) (n4 : MN w wr g3 (.slice A4 ms.length c4) ms ms (fun _ => True))
    (y0 : wr.cell? (ad0.add (i * 3)) = some (.int .i64 ok_)) (y1 : wr.cell? ⟨(ad0.add (i * 3)).block, (ad0.add (i * 3)).off + 1, none⟩ = some (.int .i64 oi)) (y2 : wr.cell? ⟨(ad0.add (i * 3)).block, (ad0.add (i * 3)).off + 2, none⟩ = some (.slice A2 ps.length c2))
    (l2 : ps.length ≤ c2) (g2 : Kd.C k37 w A2 ps.length ps) (hfp : ∀ y ∈ ps, Fit y) (hk0 : ok_ = 0) (hth : ¬0 ≤ oi)
    (hK : ∀ (u2 u6 u7 u8 u9 u10 u11 u12 u24 u25 u26 u27 u28 u29 u30 u31 u32 u33 u34 u35 u36 u37 u38 u39 u40 u41 u42 u43 u44 u45 u46 u47 u48 u49 u50 u51 u52 u53 u54 u55 u56 u57 u58 u59 u60 u61 u62 u63 u64 u65 u66 u67 u68 u69 u70 u71 u72 u73 u74 u75 u76 u77 u78 u79 u80 u81 u82 u83 u84 u85 u86 u87 u88 u89 u90 u91 u92 u93 u94 u95 u96 u97 u98 u99 u100 u101 u102 u103 u104 u105 u106 u107 u108 u109 u110 u111 u112 u113 u114 u115 u116 u117 u118 u119 u120 u121 u122 u123 u124 u125 u126 u127 u128 u129 u130 u131 u132 u133 u134 u135 u136 u137 u138 u139 u140 u141 u142 u143 u144 u145 u146 u147 u148 u149 u150 u151 u152 u153 u154 u155 u156 u157 u158 u159 u160 u161 u162 u163 u164 u165 u166 v4 v23 : Value) (w' : World) (ms' : List S37), v23 = .int .i64 ((i + 1 : Nat) : Int) → ms'.length ≤ 50 * (i + 1) → MN w w' g3 v4 ms' ms' (fun _ => True) → K ⟨#[.slice (some ad0) l0.length c0, undef, u2, .pointer (some ⟨g3, 0, none⟩), v4, undef, u6, u7, u8, u9, u10, u11, u12, undef, undef, undef, .bool true, .bool false, .slice (some ad0) l0.length c0, .int .i64 (l0.length : Int), .bool false, .slice (some ad0) l0.length c0, .int .i64 (l0.length : Int), v23, u24, u25, u26, u27, u28, u29, u30, u31, u32, u33, u34, u35, u36, u37, u38, u39, u40, u41, u42, u43, u44, u45, u46, u47, u48, u49, u50, u51, u52, u53, u54, u55, u56, u57, u58, u59, u60, u61, u62, u63, u64, u65, u66, u67, u68, u69, u70, u71, u72, u73, u74, u75, u76, u77, u78, u79, u80, u81, u82, u83, u84, u85, u86, u87, u88, u89, u90, u91, u92, u93, u94, u95, u96, u97, u98, u99, u100, u101, u102, u103, u104, u105, u106, u107, u108, u109, u110, u111, u112, u113, u114, u115, u116, u117, u118, u119, u120, u121, u122, u123, u124, u125, u126, u127, u128, u129, u130, u131, u132, u133, u134, u135, u136, u137, u138, u139, u140, u141, u142, u143, u144, u145, u146, u147, u148, u149, u150, u151, u152, u153, u154, u155, u156, u157, u158, u159, u160, u161, u162, u163, u164, u165, u166, undef, undef, undef, undef, undef, undef, undef, undef, undef, undef, undef, undef, undef, undef, undef, undef, undef, undef, undef, undef, undef, undef], []⟩ w') :
    Code.wp Try.prog npBody (Exit.then K (Exit.inBlock 0 (Exit.then K1 (bodyPost Try.prog Try.f3 (fun e w' => e = .returned (.bool true) ∧ Below w.heap.size w w'))))) ⟨#[.slice (some ad0) l0.length c0, undef, u2, .pointer (some ⟨g3, 0, none⟩), .slice A4 ms.length c4, undef, u6, u7, u8, u9, u10, u11, u12, undef, undef, undef, .bool true, .bool false, .slice (some ad0) l0.length c0, .int .i64 (l0.length : Int), .bool false, .slice (some ad0) l0.length c0, .int .i64 (l0.length : Int), .int .i64 (i : Int), u24, u25, u26, u27, u28, u29, u30, u31, u32, u33, u34, u35, u36, u37, u38, u39, u40, u41, u42, u43, u44, u45, u46, u47, u48, u49, u50, u51, u52, u53, u54, u55, u56, u57, u58, u59, u60, u61, u62, u63, u64, u65, u66, u67, u68, u69, u70, u71, u72, u73, u74, u75, u76, u77, u78, u79, u80, u81, u82, u83, u84, u85, u86, u87, u88, u89, u90, u91, u92, u93, u94, u95, u96, u97, u98, u99, u100, u101, u102, u103, u104, u105, u106, u107, u108, u109, u110, u111, u112, u113, u114, u115, u116, u117, u118, u119, u120, u121, u122, u123, u124, u125, u126, u127, u128, u129, u130, u131, u132, u133, u134, u135, u136, u137, u138, u139, u140, u141, u142, u143, u144, u145, u146, u147, u148, u149, u150, u151, u152, u153, u154, u155, u156, u157, u158, u159, u160, u161, u162, u163, u164, u165, u166, undef, undef, undef, undef, undef, undef, undef, undef, undef, undef, undef, undef, undef, undef, undef, undef, undef, undef, undef, undef, undef, undef], []⟩ wr := by
  have d1 : decide ((i : Int) < (l0.length : Int)) = true := decide_eq_true (by omega)
  have d2 : decide (i < l0.length) = true := decide_eq_true hi
  have d3 : (i < l0.length) = True := eq_true hi
  have hi0 : (0 : Int) ≤ (i : Int) := by omega
  have hi1 : (i : Int) < (l0.length : Int) := by omega
  have G2 := Aside0.mk g2; have FP := Aside0.mk hfp; have L2 := Aside0.mk l2; have HL := Aside0.mk hl; have N4 := Aside0.mk n4; have HK := Aside0.mk hK
  have b2 : wrap64 ((i : Int) + 1) = ((i + 1 : Nat) : Int) := by unfold wrap64; omega
  have q1 := eq_true hi0; have q2 := eq_true hi1; have q3 : decide ((0 : Int) ≤ (i : Int)) = true := decide_eq_true hi0
  have HLM := Aside0.mk (show ms.length ≤ 3000 by omega)
  have N5_ := Aside0.mk N4.out.bnd; have ZW := Aside0.mk (Nat.le_refl wr.heap.size)
  clear hi h60 hl n4 g2 hfp l2 hK hi0 hi1
  conv => arg 2; whnf
  have t0 : (ok_ == 0) = true := by rw [hk0]; decide
  have t1 : (ok_ == 1) = false := by rw [hk0]; decide
  have t2 : (ok_ == 2) = false := by rw [hk0]; decide
  have t3 : (ok_ == 3) = false := by rw [hk0]; decide
  clear hk0
  have th1 : decide (oi ≥ 0) = false := decide_eq_false hth
  have th2 : decide (0 ≤ oi) = false := decide_eq_false hth
  have HJ := Aside0.mk (show ¬(0 ≤ oi ∧ oi < (ms.length : Int)) from fun q => hth q.1)
  clear hth
  by_cases h50 : ps.length > 50
  · have e1 : decide (50 < (ps.length : Int)) = true := decide_eq_true (by omega)
    have e2 : decide (50 < ps.length) = true := decide_eq_true h50
    have e3 : (50 < ps.length) = True := eq_true h50
    clear h50
    go_wp2_with (first | ((with_reducible refine gate_dst (N := 6) rfl ?_); refine box_event ?hg (N := 6) ?hd (cs := #[.int .i64 0, .int .i64 0, .slice none 0 0]) (t := 28) ?hr ?_; (case hd => rfl); (case hg => rfl); (case hr => first | (go_simp; done) | (go_simp; rfl)); intro g6 hg w5m hbox hb; have ZB := Aside0.mk hb; have ZX := Aside0.mk hbox; have X5g := Aside0.mk (show wr.heap.size ≤ g6 from by rw [hg]; exact Nat.le_refl _); have o_zc0 : w5m.cell? ⟨g6, 0, none⟩ = some (.int .i64 0) := (blk_cell ZX.out 0).trans rfl; have o_zf0 := blk_frozen ZX.out 0; have o_zc1 : w5m.cell? ⟨g6, 1, none⟩ = some (.int .i64 0) := (blk_cell ZX.out 1).trans rfl; have o_zf1 := blk_frozen ZX.out 1; have o_zc2 : w5m.cell? ⟨g6, 2, none⟩ = some (.slice none 0 0) := (blk_cell ZX.out 2).trans rfl; have o_zf2 := blk_frozen ZX.out 2; clear hb hg hbox) | ((with_reducible refine gate_dst (N := 27) rfl ?_); have NB5 := Aside0.mk (below_setB (below_setB (below_setB ZB.out (p := ⟨g6, 0, none⟩) X5g.out (.int .i64 ok_)) (p := ⟨g6, 1, none⟩) X5g.out (.int .i64 oi)) (p := ⟨g6, 2, none⟩) X5g.out (.slice A2 ps.length c2)); have X5 := Aside0.mk (blk_put (blk_put (blk_put ZX.out 0 (.int .i64 ok_) (cs' := #[.int .i64 ok_, .int .i64 0, .slice none 0 0]) rfl) 1 (.int .i64 oi) (cs' := #[.int .i64 ok_, .int .i64 oi, .slice none 0 0]) rfl) 2 (.slice A2 ps.length c2) (cs' := #[.int .i64 ok_, .int .i64 oi, .slice A2 ps.length c2]) rfl); clear ZB ZX o_zc0 o_zf0 o_zc1 o_zf1 o_zc2 o_zf2; generalize (((w5m.setCell ⟨g6, 0, none⟩ (.int .i64 ok_)).setCell ⟨g6, 1, none⟩ (.int .i64 oi)).setCell ⟨g6, 2, none⟩ (.slice A2 ps.length c2)) = w5 at NB5 X5 ⊢; have N5 := Aside0.mk (N5_.out.below NB5.out); have o_c0 : w5.cell? ⟨g6, 0, none⟩ = some (.int .i64 ok_) := (blk_cell X5.out 0).trans rfl; have o_f0 := blk_frozen X5.out 0; have o_c1 : w5.cell? ⟨g6, 1, none⟩ = some (.int .i64 oi) := (blk_cell X5.out 1).trans rfl; have o_f1 := blk_frozen X5.out 1; have o_c2 : w5.cell? ⟨g6, 2, none⟩ = some (.slice A2 ps.length c2) := (blk_cell X5.out 2).trans rfl; have o_f2 := blk_frozen X5.out 2))
    go_ret
    exact ⟨rfl, N5.out.bel⟩
  have e1 : decide (50 < (ps.length : Int)) = false := decide_eq_false (by omega)
  have e2 : decide (50 < ps.length) = false := decide_eq_false h50
  have e3 : (50 < ps.length) = False := eq_false h50
  have H50 := Aside0.mk (show ps.length ≤ 50 by omega)
  clear h50
  go_wp2_with (first | ((with_reducible refine gate_dst (N := 6) rfl ?_); refine box_event ?hg (N := 6) ?hd (cs := #[.int .i64 0, .int .i64 0, .slice none 0 0]) (t := 28) ?hr ?_; (case hd => rfl); (case hg => rfl); (case hr => first | (go_simp; done) | (go_simp; rfl)); intro g6 hg w5m hbox hb; have ZB := Aside0.mk hb; have ZX := Aside0.mk hbox; have X5g := Aside0.mk (show wr.heap.size ≤ g6 from by rw [hg]; exact Nat.le_refl _); have o_zc0 : w5m.cell? ⟨g6, 0, none⟩ = some (.int .i64 0) := (blk_cell ZX.out 0).trans rfl; have o_zf0 := blk_frozen ZX.out 0; have o_zc1 : w5m.cell? ⟨g6, 1, none⟩ = some (.int .i64 0) := (blk_cell ZX.out 1).trans rfl; have o_zf1 := blk_frozen ZX.out 1; have o_zc2 : w5m.cell? ⟨g6, 2, none⟩ = some (.slice none 0 0) := (blk_cell ZX.out 2).trans rfl; have o_zf2 := blk_frozen ZX.out 2; clear hb hg hbox) | ((with_reducible refine gate_dst (N := 27) rfl ?_); have NB5 := Aside0.mk (below_setB (below_setB (below_setB ZB.out (p := ⟨g6, 0, none⟩) X5g.out (.int .i64 ok_)) (p := ⟨g6, 1, none⟩) X5g.out (.int .i64 oi)) (p := ⟨g6, 2, none⟩) X5g.out (.slice A2 ps.length c2)); have X5 := Aside0.mk (blk_put (blk_put (blk_put ZX.out 0 (.int .i64 ok_) (cs' := #[.int .i64 ok_, .int .i64 0, .slice none 0 0]) rfl) 1 (.int .i64 oi) (cs' := #[.int .i64 ok_, .int .i64 oi, .slice none 0 0]) rfl) 2 (.slice A2 ps.length c2) (cs' := #[.int .i64 ok_, .int .i64 oi, .slice A2 ps.length c2]) rfl); clear ZB ZX o_zc0 o_zf0 o_zc1 o_zf1 o_zc2 o_zf2; generalize (((w5m.setCell ⟨g6, 0, none⟩ (.int .i64 ok_)).setCell ⟨g6, 1, none⟩ (.int .i64 oi)).setCell ⟨g6, 2, none⟩ (.slice A2 ps.length c2)) = w5 at NB5 X5 ⊢; have N5 := Aside0.mk (N5_.out.below NB5.out); have o_c0 : w5.cell? ⟨g6, 0, none⟩ = some (.int .i64 ok_) := (blk_cell X5.out 0).trans rfl; have o_f0 := blk_frozen X5.out 0; have o_c1 : w5.cell? ⟨g6, 1, none⟩ = some (.int .i64 oi) := (blk_cell X5.out 1).trans rfl; have o_f1 := blk_frozen X5.out 1; have o_c2 : w5.cell? ⟨g6, 2, none⟩ = some (.slice A2 ps.length c2) := (blk_cell X5.out 2).trans rfl; have o_f2 := blk_frozen X5.out 2))
  refine start_ (n := 7) (S := fun w' => w'.cell? ⟨g6, 2, none⟩ = some (.slice A2 ps.length c2)) (ds := []) #[false, false, false, false, false, false, false] (by kernel_rfl) rfl rfl ((blk_cell (blk_drew X5.out) 2).trans rfl) (fun hHeld => ?_)
  refine pure_ (i := 0) (N := some 45) (v := ?_) (a' := ?_) #[true, false, false, false, false, false, false] rfl rfl (by kernel_rfl) (fun _ _ _ h => h) (Or.inl ⟨by rfl, ?_⟩) ?_ ?_
  rotate_left
  · intro w'
    go_simp
    with_reducible rfl
  rotate_left
  · simp only [Act.put, List.setIfInBounds_toArray, List.set_cons_zero, List.set_cons_succ, i64_w, i32_w]
    rfl
  refine pure_ (i := 3) (N := some 48) (v := ?_) (a' := ?_) #[true, false, false, true, false, false, false] rfl rfl (by kernel_rfl) (fun _ _ _ h => h) (Or.inl ⟨by rfl, ?_⟩) ?_ ?_
  rotate_left
  · intro w'
    go_simp
    with_reducible rfl
  rotate_left
  · simp only [Act.put, List.setIfInBounds_toArray, List.set_cons_zero, List.set_cons_succ, i64_w, i32_w]
    rfl
  refine take_ (i := 1) (N := some 46) (v := ?_) (a' := ?_) #[true, true, false, true, false, false, false] rfl rfl (by kernel_rfl) (fun _ _ _ h => h) (Or.inl ⟨by rfl, ?_⟩) hHeld ?_ ?_
  rotate_left
  · intro w' s0
    go_simp
    with_reducible rfl
  rotate_left
  · simp only [Act.put, List.setIfInBounds_toArray, List.set_cons_zero, List.set_cons_succ, i64_w, i32_w]
    rfl
  refine take_ (i := 4) (N := some 49) (v := ?_) (a' := ?_) #[true, true, false, true, true, false, false] rfl rfl (by kernel_rfl) (fun _ _ _ h => h) (Or.inl ⟨by rfl, ?_⟩) hHeld ?_ ?_
  rotate_left
  · intro w' s0
    go_simp
    with_reducible rfl
  rotate_left
  · simp only [Act.put, List.setIfInBounds_toArray, List.set_cons_zero, List.set_cons_succ, i64_w, i32_w]
    rfl
  refine pure_ (i := 5) (N := some 50) (v := ?_) (a' := ?_) #[true, true, false, true, true, true, false] rfl rfl (by kernel_rfl) (fun _ _ _ h => h) (Or.inl ⟨by rfl, ?_⟩) ?_ ?_
  rotate_left
  · intro w'
    go_simp
    with_reducible rfl
  rotate_left
  · simp only [Act.put, List.setIfInBounds_toArray, List.set_cons_zero, List.set_cons_succ, i64_w, i32_w]
    rfl
  refine one_ (i := 2) (N := some 47) #[true, true, true, true, true, true, false] rfl rfl (by kernel_rfl) (by decide) (fun K hK => ?_)
  refine goes_ Try.func12 (by kernel_rfl) rfl #[.pointer (some ⟨g3, 0, none⟩), .slice A2 ps.length c2] (by rfl) rfl rfl (by simp only [List.map_toArray, List.map_cons, List.map_nil]; rfl) ?_
  with_reducible refine (net_SendAll (ps := ps) rfl N5.out.drew.net N5.out.drew.le (fun w_ hb hk => Kd.C_below G2.out (N5.out.drew.bel.trans hb)) L2.out FP.out (by have := HLM.out; have := H50.out; omega)).mono ?_
  rintro x w7 ⟨rfl, hI, hb, hk⟩
  refine ⟨_, rfl, ?_⟩
  have N7 := Aside0.mk (N5.out.drew.op hI hb hk)
  have X6 := Aside0.mk ((hk.2 g6 (blk_lt (blk_drew X5.out)) (fun q => absurd q.2 (Nat.not_lt.mpr X5g.out))).trans (blk_drew X5.out))
  clear hI hb hk
  refine hK.out _ _ ((blk_cell X6.out 2).trans rfl) (fun hHeld => ?_)
  clear hK K
  refine norm_ (a' := ?_) ?_ ?_
  rotate_left
  · show Act.put _ (some 47) _ = _
    simp only [Act.put, List.setIfInBounds_toArray, List.set_cons_zero, List.set_cons_succ, i64_w, i32_w]
    rfl
  refine pure_ (i := 6) (N := some 51) (v := ?_) (a' := ?_) #[true, true, true, true, true, true, true] rfl rfl (by kernel_rfl) (fun _ _ _ h => h) (Or.inl ⟨by rfl, ?_⟩) ?_ ?_
  rotate_left
  · intro w'
    go_simp
    with_reducible rfl
  rotate_left
  · simp only [Act.put, List.setIfInBounds_toArray, List.set_cons_zero, List.set_cons_succ, i64_w, i32_w]
    rfl
  refine done_ (by kernel_rfl) ?_
  have z1 : ((ps.length : Int) != (ps.length : Int)) = false := bne_self_eq_false _
  have z2 : (ps.length != ps.length) = false := bne_self_eq_false _
  have o_c0 : w7.cell? ⟨g6, 0, none⟩ = some (.int .i64 ok_) := (blk_cell X6.out 0).trans rfl; have o_f0 := blk_frozen X6.out 0; have o_c1 : w7.cell? ⟨g6, 1, none⟩ = some (.int .i64 oi) := (blk_cell X6.out 1).trans rfl; have o_f1 := blk_frozen X6.out 1; have o_c2 : w7.cell? ⟨g6, 2, none⟩ = some (.slice A2 ps.length c2) := (blk_cell X6.out 2).trans rfl; have o_f2 := blk_frozen X6.out 2
  go_wp2_with (first | ((with_reducible refine gate_builtin (b := .append) (xs := #[.tmp 52, .tmp 54]) rfl ?_); at_builtin; refine Kd.R_append_rows (lent w k37) (Rr := k37.K w) (w0 := w) w.heap.size rfl (.tmp 52) (.tmp 54) 24 37 (.agg #[.int .i64 0, .int .i64 0, .int .i64 0, .int .i64 0, .int .i64 0, .int .i64 0, .int .i64 0, .int .i64 0, .int .i64 0, .int .i64 0, .int .i64 0, .int .i64 0, .bool false, .slice none 0 0, .slice none 0 0]) 152 rfl Try.underlying24 info37_ rfl (show 0 < 15 by decide) (by omega) _ ms (ps) _ _ _ (fun k => k ≠ g3) (fun _ => False) rfl rfl ?aO ?aR (fun _ _ h => h) (fun _ h => h.elim) ?aF ?aB ?aS ?aL ?_; (case aO => exact N7.out.row); (case aR => exact Kd.C_below (d := lent w k37) G2.out N7.out.bel); (case aF => exact fun k hk e => by subst e; exact absurd N7.out.net.lt (Nat.not_lt.mpr hk)); (case aB => exact N7.out.bel); (case aS => exact N7.out.le); (case aL => have := HLM.out; have := H50.out; omega); intro v_ w8 ho hb hg hat; have N_ := MN.app N7.out ho hb hg hat (fit_app N7.out.fit FP.out); obtain ⟨A20, c20, e20⟩ := Kd.R_slice ho; subst e20; have N8 := Aside0.mk N_; clear N_ ho hb hg hat))
  have z3 : (((ms ++ ps).length : Int) != ((ms ++ ps).length : Int)) = false := bne_self_eq_false _
  clear d1 d2 d3 q1 q2 q3 y0 y1 y2 e1 e2 e3
  refine (net_Len N8.out.net).mono ?_; rintro x w90 ⟨rfl, hb⟩; have N90 := Aside0.mk (N8.out.below hb); clear hb
  go_wp2_with fail
  exact HK.out _ _ _ _ _ _ _ _ _ _ _ _ _ _ _ _ _ _ _ _ _ _ _ _ _ _ _ _ _ _ _ _ _ _ _ _ _ _ _ _ _ _ _ _ _ _ _ _ _ _ _ _ _ _ _ _ _ _ _ _ _ _ _ _ _ _ _ _ _ _ _ _ _ _ _ _ _ _ _ _ _ _ _ _ _ _ _ _ _ _ _ _ _ _ _ _ _ _ _ _ _ _ _ _ _ _ _ _ _ _ _ _ _ _ _ _ _ _ _ _ _ _ _ _ _ _ _ _ _ _ _ _ _ _ _ _ _ _ _ _ _ _ _ _ _ _ _ _ _ _ _ _ _ w90 (ms ++ ps) (by first | rw [b2] | rfl) (by rw [List.length_append]; have := HL.out; have := H50.out; omega) (by first | exact N90.out.any | (have h := N90.out.any; simp only [List.length_append, List.length_singleton] at h ⊢; exact h))
set_option maxHeartbeats 16000000 in
set_option maxRecDepth 100000 in
theorem np_1neg {w wr : World} {l0 : List S28} {c0 g3 i c4 c2 : Nat} {ms ps : List S37} {A4 A2 : Option Addr} {ad0 : Addr} {ok_ oi : Int} {u2 u6 u7 u8 u9 u10 u11 u12 u24 u25 u26 u27 u28 u29 u30 u31 u32 u33 u34 u35 u36 u37 u38 u39 u40 u41 u42 u43 u44 u45 u46 u47 u48 u49 u50 u51 u52 u53 u54 u55 u56 u57 u58 u59 u60 u61 u62 u63 u64 u65 u66 u67 u68 u69 u70 u71 u72 u73 u74 u75 u76 u77 u78 u79 u80 u81 u82 u83 u84 u85 u86 u87 u88 u89 u90 u91 u92 u93 u94 u95 u96 u97 u98 u99 u100 u101 u102 u103 u104 u105 u106 u107 u108 u109 u110 u111 u112 u113 u114 u115 u116 u117 u118 u119 u120 u121 u122 u123 u124 u125 u126 u127 u128 u129 u130 u131 u132 u133 u134 u135 u136 u137 u138 u139 u140 u141 u142 u143 u144 u145 u146 u147 u148 u149 u150 u151 u152 u153 u154 u155 u156 u157 u158 u159 u160 u161 u162 u163 u164 u165 u166 : Value} {K K1 : Act → World → Prop}
    (hi : i < l0.length) (h60 : l0.length ≤ 60) (hl : ms.length ≤ 50 * i) (n4 : MN w wr g3 (.slice A4 ms.length c4) ms ms (fun _ => True))
    (y0 : wr.cell? (ad0.add (i * 3)) = some (.int .i64 ok_)) (y1 : wr.cell? ⟨(ad0.add (i * 3)).block, (ad0.add (i * 3)).off + 1, none⟩ = some (.int .i64 oi)) (y2 : wr.cell? ⟨(ad0.add (i * 3)).block, (ad0.add (i * 3)).off + 2, none⟩ = some (.slice A2 ps.length c2))
    (l2 : ps.length ≤ c2) (g2 : Kd.C k37 w A2 ps.length ps) (hfp : ∀ y ∈ ps, Fit y) (hk0 : ¬ok_ = 0) (hk1 : ok_ = 1) (hth : ¬0 ≤ oi)
    (hK : ∀ (u2 u6 u7 u8 u9 u10 u11 u12 u24 u25 u26 u27 u28 u29 u30 u31 u32 u33 u34 u35 u36 u37 u38 u39 u40 u41 u42 u43 u44 u45 u46 u47 u48 u49 u50 u51 u52 u53 u54 u55 u56 u57 u58 u59 u60 u61 u62 u63 u64 u65 u66 u67 u68 u69 u70 u71 u72 u73 u74 u75 u76 u77 u78 u79 u80 u81 u82 u83 u84 u85 u86 u87 u88 u89 u90 u91 u92 u93 u94 u95 u96 u97 u98 u99 u100 u101 u102 u103 u104 u105 u106 u107 u108 u109 u110 u111 u112 u113 u114 u115 u116 u117 u118 u119 u120 u121 u122 u123 u124 u125 u126 u127 u128 u129 u130 u131 u132 u133 u134 u135 u136 u137 u138 u139 u140 u141 u142 u143 u144 u145 u146 u147 u148 u149 u150 u151 u152 u153 u154 u155 u156 u157 u158 u159 u160 u161 u162 u163 u164 u165 u166 v4 v23 : Value) (w' : World) (ms' : List S37), v23 = .int .i64 ((i + 1 : Nat) : Int) → ms'.length ≤ 50 * (i + 1) → MN w w' g3 v4 ms' ms' (fun _ => True) → K ⟨#[.slice (some ad0) l0.length c0, undef, u2, .pointer (some ⟨g3, 0, none⟩), v4, undef, u6, u7, u8, u9, u10, u11, u12, undef, undef, undef, .bool true, .bool false, .slice (some ad0) l0.length c0, .int .i64 (l0.length : Int), .bool false, .slice (some ad0) l0.length c0, .int .i64 (l0.length : Int), v23, u24, u25, u26, u27, u28, u29, u30, u31, u32, u33, u34, u35, u36, u37, u38, u39, u40, u41, u42, u43, u44, u45, u46, u47, u48, u49, u50, u51, u52, u53, u54, u55, u56, u57, u58, u59, u60, u61, u62, u63, u64, u65, u66, u67, u68, u69, u70, u71, u72, u73, u74, u75, u76, u77, u78, u79, u80, u81, u82, u83, u84, u85, u86, u87, u88, u89, u90, u91, u92, u93, u94, u95, u96, u97, u98, u99, u100, u101, u102, u103, u104, u105, u106, u107, u108, u109, u110, u111, u112, u113, u114, u115, u116, u117, u118, u119, u120, u121, u122, u123, u124, u125, u126, u127, u128, u129, u130, u131, u132, u133, u134, u135, u136, u137, u138, u139, u140, u141, u142, u143, u144, u145, u146, u147, u148, u149, u150, u151, u152, u153, u154, u155, u156, u157, u158, u159, u160, u161, u162, u163, u164, u165, u166, undef, undef, undef, undef, undef, undef, undef, undef, undef, undef, undef, undef, undef, undef, undef, undef, undef, undef, undef, undef, undef, undef], []⟩ w') :
    Code.wp Try.prog npBody (Exit.then K (Exit.inBlock 0 (Exit.then K1 (bodyPost Try.prog Try.f3 (fun e w' => e = .returned (.bool true) ∧ Below w.heap.size w w'))))) ⟨#[.slice (some ad0) l0.length c0, undef, u2, .pointer (some ⟨g3, 0, none⟩), .slice A4 ms.length c4, undef, u6, u7, u8, u9, u10, u11, u12, undef, undef, undef, .bool true, .bool false, .slice (some ad0) l0.length c0, .int .i64 (l0.length : Int), .bool false, .slice (some ad0) l0.length c0, .int .i64 (l0.length : Int), .int .i64 (i : Int), u24, u25, u26, u27, u28, u29, u30, u31, u32, u33, u34, u35, u36, u37, u38, u39, u40, u41, u42, u43, u44, u45, u46, u47, u48, u49, u50, u51, u52, u53, u54, u55, u56, u57, u58, u59, u60, u61, u62, u63, u64, u65, u66, u67, u68, u69, u70, u71, u72, u73, u74, u75, u76, u77, u78, u79, u80, u81, u82, u83, u84, u85, u86, u87, u88, u89, u90, u91, u92, u93, u94, u95, u96, u97, u98, u99, u100, u101, u102, u103, u104, u105, u106, u107, u108, u109, u110, u111, u112, u113, u114, u115, u116, u117, u118, u119, u120, u121, u122, u123, u124, u125, u126, u127, u128, u129, u130, u131, u132, u133, u134, u135, u136, u137, u138, u139, u140, u141, u142, u143, u144, u145, u146, u147, u148, u149, u150, u151, u152, u153, u154, u155, u156, u157, u158, u159, u160, u161, u162, u163, u164, u165, u166, undef, undef, undef, undef, undef, undef, undef, undef, undef, undef, undef, undef, undef, undef, undef, undef, undef, undef, undef, undef, undef, undef], []⟩ wr := by
  have d1 : decide ((i : Int) < (l0.length : Int)) = true := decide_eq_true (by omega)
  have d2 : decide (i < l0.length) = true := decide_eq_true hi
  have d3 : (i < l0.length) = True := eq_true hi
  have hi0 : (0 : Int) ≤ (i : Int) := by omega
  have hi1 : (i : Int) < (l0.length : Int) := by omega
  have G2 := Aside0.mk g2; have FP := Aside0.mk hfp; have L2 := Aside0.mk l2; have HL := Aside0.mk hl; have N4 := Aside0.mk n4; have HK := Aside0.mk hK
  have b2 : wrap64 ((i : Int) + 1) = ((i + 1 : Nat) : Int) := by unfold wrap64; omega
  have q1 := eq_true hi0; have q2 := eq_true hi1; have q3 : decide ((0 : Int) ≤ (i : Int)) = true := decide_eq_true hi0
  have HLM := Aside0.mk (show ms.length ≤ 3000 by omega)
  have N5_ := Aside0.mk N4.out.bnd; have ZW := Aside0.mk (Nat.le_refl wr.heap.size)
  clear hi h60 hl n4 g2 hfp l2 hK hi0 hi1
  conv => arg 2; whnf
  have t0 : (ok_ == 0) = false := by rw [hk1]; decide
  have t1 : (ok_ == 1) = true := by rw [hk1]; decide
  have t2 : (ok_ == 2) = false := by rw [hk1]; decide
  have t3 : (ok_ == 3) = false := by rw [hk1]; decide
  clear hk0 hk1
  have th1 : decide (oi ≥ 0) = false := decide_eq_false hth
  have th2 : decide (0 ≤ oi) = false := decide_eq_false hth
  have HJ := Aside0.mk (show ¬(0 ≤ oi ∧ oi < (ms.length : Int)) from fun q => hth q.1)
  clear hth
  go_wp2_with (first | ((with_reducible refine gate_dst (N := 6) rfl ?_); refine box_event ?hg (N := 6) ?hd (cs := #[.int .i64 0, .int .i64 0, .slice none 0 0]) (t := 28) ?hr ?_; (case hd => rfl); (case hg => rfl); (case hr => first | (go_simp; done) | (go_simp; rfl)); intro g6 hg w5m hbox hb; have ZB := Aside0.mk hb; have ZX := Aside0.mk hbox; have X5g := Aside0.mk (show wr.heap.size ≤ g6 from by rw [hg]; exact Nat.le_refl _); have o_zc0 : w5m.cell? ⟨g6, 0, none⟩ = some (.int .i64 0) := (blk_cell ZX.out 0).trans rfl; have o_zf0 := blk_frozen ZX.out 0; have o_zc1 : w5m.cell? ⟨g6, 1, none⟩ = some (.int .i64 0) := (blk_cell ZX.out 1).trans rfl; have o_zf1 := blk_frozen ZX.out 1; have o_zc2 : w5m.cell? ⟨g6, 2, none⟩ = some (.slice none 0 0) := (blk_cell ZX.out 2).trans rfl; have o_zf2 := blk_frozen ZX.out 2; clear hb hg hbox) | ((with_reducible refine gate_dst (N := 27) rfl ?_); have NB5 := Aside0.mk (below_setB (below_setB (below_setB ZB.out (p := ⟨g6, 0, none⟩) X5g.out (.int .i64 ok_)) (p := ⟨g6, 1, none⟩) X5g.out (.int .i64 oi)) (p := ⟨g6, 2, none⟩) X5g.out (.slice A2 ps.length c2)); have X5 := Aside0.mk (blk_put (blk_put (blk_put ZX.out 0 (.int .i64 ok_) (cs' := #[.int .i64 ok_, .int .i64 0, .slice none 0 0]) rfl) 1 (.int .i64 oi) (cs' := #[.int .i64 ok_, .int .i64 oi, .slice none 0 0]) rfl) 2 (.slice A2 ps.length c2) (cs' := #[.int .i64 ok_, .int .i64 oi, .slice A2 ps.length c2]) rfl); clear ZB ZX o_zc0 o_zf0 o_zc1 o_zf1 o_zc2 o_zf2; generalize (((w5m.setCell ⟨g6, 0, none⟩ (.int .i64 ok_)).setCell ⟨g6, 1, none⟩ (.int .i64 oi)).setCell ⟨g6, 2, none⟩ (.slice A2 ps.length c2)) = w5 at NB5 X5 ⊢; have N5 := Aside0.mk (N5_.out.below NB5.out); have o_c0 : w5.cell? ⟨g6, 0, none⟩ = some (.int .i64 ok_) := (blk_cell X5.out 0).trans rfl; have o_f0 := blk_frozen X5.out 0; have o_c1 : w5.cell? ⟨g6, 1, none⟩ = some (.int .i64 oi) := (blk_cell X5.out 1).trans rfl; have o_f1 := blk_frozen X5.out 1; have o_c2 : w5.cell? ⟨g6, 2, none⟩ = some (.slice A2 ps.length c2) := (blk_cell X5.out 2).trans rfl; have o_f2 := blk_frozen X5.out 2))
  refine (net_Take_bad N5.out.net HJ.out).mono ?_; rintro x w7 ⟨rfl, hb⟩; have N7 := Aside0.mk (N5.out.below hb); clear hb o_c0 o_f0 o_c1 o_f1 o_c2 o_f2
  dsimp only [pkV, z37, z35, z31, List.length_nil]
  go_upto_region 20 with (first | ((with_reducible refine gate_dst (N := 8) rfl ?_); refine box_event ?hg (N := 8) ?hd (cs := #[.int .i64 0, .int .i64 0, .int .i64 0, .int .i64 0, .int .i64 0, .int .i64 0, .int .i64 0, .int .i64 0, .int .i64 0, .int .i64 0, .int .i64 0, .int .i64 0, .bool false, .slice none 0 0, .slice none 0 0]) (t := 37) ?hr ?_; (case hd => rfl); (case hg => rfl); (case hr => first | (go_simp; done) | (go_simp; rfl)); intro g8 hg w8m hbox hb; have ZB := Aside0.mk hb; have ZX := Aside0.mk hbox; have X8g := Aside0.mk (show w7.heap.size ≤ g8 from by rw [hg]; exact Nat.le_refl _); have x_zc0 : w8m.cell? ⟨g8, 0, none⟩ = some (.int .i64 0) := (blk_cell ZX.out 0).trans rfl; have x_zf0 := blk_frozen ZX.out 0; have x_zc1 : w8m.cell? ⟨g8, 1, none⟩ = some (.int .i64 0) := (blk_cell ZX.out 1).trans rfl; have x_zf1 := blk_frozen ZX.out 1; have x_zc2 : w8m.cell? ⟨g8, 2, none⟩ = some (.int .i64 0) := (blk_cell ZX.out 2).trans rfl; have x_zf2 := blk_frozen ZX.out 2; have x_zc3 : w8m.cell? ⟨g8, 3, none⟩ = some (.int .i64 0) := (blk_cell ZX.out 3).trans rfl; have x_zf3 := blk_frozen ZX.out 3; have x_zc4 : w8m.cell? ⟨g8, 4, none⟩ = some (.int .i64 0) := (blk_cell ZX.out 4).trans rfl; have x_zf4 := blk_frozen ZX.out 4; have x_zc5 : w8m.cell? ⟨g8, 5, none⟩ = some (.int .i64 0) := (blk_cell ZX.out 5).trans rfl; have x_zf5 := blk_frozen ZX.out 5; have x_zc6 : w8m.cell? ⟨g8, 6, none⟩ = some (.int .i64 0) := (blk_cell ZX.out 6).trans rfl; have x_zf6 := blk_frozen ZX.out 6; have x_zc7 : w8m.cell? ⟨g8, 7, none⟩ = some (.int .i64 0) := (blk_cell ZX.out 7).trans rfl; have x_zf7 := blk_frozen ZX.out 7; have x_zc8 : w8m.cell? ⟨g8, 8, none⟩ = some (.int .i64 0) := (blk_cell ZX.out 8).trans rfl; have x_zf8 := blk_frozen ZX.out 8; have x_zc9 : w8m.cell? ⟨g8, 9, none⟩ = some (.int .i64 0) := (blk_cell ZX.out 9).trans rfl; have x_zf9 := blk_frozen ZX.out 9; have x_zc10 : w8m.cell? ⟨g8, 10, none⟩ = some (.int .i64 0) := (blk_cell ZX.out 10).trans rfl; have x_zf10 := blk_frozen ZX.out 10; have x_zc11 : w8m.cell? ⟨g8, 11, none⟩ = some (.int .i64 0) := (blk_cell ZX.out 11).trans rfl; have x_zf11 := blk_frozen ZX.out 11; have x_zc12 : w8m.cell? ⟨g8, 12, none⟩ = some (.bool false) := (blk_cell ZX.out 12).trans rfl; have x_zf12 := blk_frozen ZX.out 12; have x_zc13 : w8m.cell? ⟨g8, 13, none⟩ = some (.slice none 0 0) := (blk_cell ZX.out 13).trans rfl; have x_zf13 := blk_frozen ZX.out 13; have x_zc14 : w8m.cell? ⟨g8, 14, none⟩ = some (.slice none 0 0) := (blk_cell ZX.out 14).trans rfl; have x_zf14 := blk_frozen ZX.out 14; clear hb hg hbox))
  have NB8 := Aside0.mk (below_setB (below_setB (below_setB (below_setB (below_setB (below_setB (below_setB (below_setB (below_setB (below_setB (below_setB (below_setB (below_setB (below_setB (below_setB ZB.out (p := ⟨g8, 0, none⟩) X8g.out (.int .i64 0)) (p := ⟨g8, 1, none⟩) X8g.out (.int .i64 0)) (p := ⟨g8, 2, none⟩) X8g.out (.int .i64 0)) (p := ⟨g8, 3, none⟩) X8g.out (.int .i64 0)) (p := ⟨g8, 4, none⟩) X8g.out (.int .i64 0)) (p := ⟨g8, 5, none⟩) X8g.out (.int .i64 0)) (p := ⟨g8, 6, none⟩) X8g.out (.int .i64 0)) (p := ⟨g8, 7, none⟩) X8g.out (.int .i64 0)) (p := ⟨g8, 8, none⟩) X8g.out (.int .i64 0)) (p := ⟨g8, 9, none⟩) X8g.out (.int .i64 0)) (p := ⟨g8, 10, none⟩) X8g.out (.int .i64 0)) (p := ⟨g8, 11, none⟩) X8g.out (.int .i64 0)) (p := ⟨g8, 12, none⟩) X8g.out (.bool false)) (p := ⟨g8, 13, none⟩) X8g.out (.slice none 0 0)) (p := ⟨g8, 14, none⟩) X8g.out (.slice none 0 0)); have X8 := Aside0.mk (blk_put (blk_put (blk_put (blk_put (blk_put (blk_put (blk_put (blk_put (blk_put (blk_put (blk_put (blk_put (blk_put (blk_put (blk_put ZX.out 0 (.int .i64 0) (cs' := #[.int .i64 0, .int .i64 0, .int .i64 0, .int .i64 0, .int .i64 0, .int .i64 0, .int .i64 0, .int .i64 0, .int .i64 0, .int .i64 0, .int .i64 0, .int .i64 0, .bool false, .slice none 0 0, .slice none 0 0]) rfl) 1 (.int .i64 0) (cs' := #[.int .i64 0, .int .i64 0, .int .i64 0, .int .i64 0, .int .i64 0, .int .i64 0, .int .i64 0, .int .i64 0, .int .i64 0, .int .i64 0, .int .i64 0, .int .i64 0, .bool false, .slice none 0 0, .slice none 0 0]) rfl) 2 (.int .i64 0) (cs' := #[.int .i64 0, .int .i64 0, .int .i64 0, .int .i64 0, .int .i64 0, .int .i64 0, .int .i64 0, .int .i64 0, .int .i64 0, .int .i64 0, .int .i64 0, .int .i64 0, .bool false, .slice none 0 0, .slice none 0 0]) rfl) 3 (.int .i64 0) (cs' := #[.int .i64 0, .int .i64 0, .int .i64 0, .int .i64 0, .int .i64 0, .int .i64 0, .int .i64 0, .int .i64 0, .int .i64 0, .int .i64 0, .int .i64 0, .int .i64 0, .bool false, .slice none 0 0, .slice none 0 0]) rfl) 4 (.int .i64 0) (cs' := #[.int .i64 0, .int .i64 0, .int .i64 0, .int .i64 0, .int .i64 0, .int .i64 0, .int .i64 0, .int .i64 0, .int .i64 0, .int .i64 0, .int .i64 0, .int .i64 0, .bool false, .slice none 0 0, .slice none 0 0]) rfl) 5 (.int .i64 0) (cs' := #[.int .i64 0, .int .i64 0, .int .i64 0, .int .i64 0, .int .i64 0, .int .i64 0, .int .i64 0, .int .i64 0, .int .i64 0, .int .i64 0, .int .i64 0, .int .i64 0, .bool false, .slice none 0 0, .slice none 0 0]) rfl) 6 (.int .i64 0) (cs' := #[.int .i64 0, .int .i64 0, .int .i64 0, .int .i64 0, .int .i64 0, .int .i64 0, .int .i64 0, .int .i64 0, .int .i64 0, .int .i64 0, .int .i64 0, .int .i64 0, .bool false, .slice none 0 0, .slice none 0 0]) rfl) 7 (.int .i64 0) (cs' := #[.int .i64 0, .int .i64 0, .int .i64 0, .int .i64 0, .int .i64 0, .int .i64 0, .int .i64 0, .int .i64 0, .int .i64 0, .int .i64 0, .int .i64 0, .int .i64 0, .bool false, .slice none 0 0, .slice none 0 0]) rfl) 8 (.int .i64 0) (cs' := #[.int .i64 0, .int .i64 0, .int .i64 0, .int .i64 0, .int .i64 0, .int .i64 0, .int .i64 0, .int .i64 0, .int .i64 0, .int .i64 0, .int .i64 0, .int .i64 0, .bool false, .slice none 0 0, .slice none 0 0]) rfl) 9 (.int .i64 0) (cs' := #[.int .i64 0, .int .i64 0, .int .i64 0, .int .i64 0, .int .i64 0, .int .i64 0, .int .i64 0, .int .i64 0, .int .i64 0, .int .i64 0, .int .i64 0, .int .i64 0, .bool false, .slice none 0 0, .slice none 0 0]) rfl) 10 (.int .i64 0) (cs' := #[.int .i64 0, .int .i64 0, .int .i64 0, .int .i64 0, .int .i64 0, .int .i64 0, .int .i64 0, .int .i64 0, .int .i64 0, .int .i64 0, .int .i64 0, .int .i64 0, .bool false, .slice none 0 0, .slice none 0 0]) rfl) 11 (.int .i64 0) (cs' := #[.int .i64 0, .int .i64 0, .int .i64 0, .int .i64 0, .int .i64 0, .int .i64 0, .int .i64 0, .int .i64 0, .int .i64 0, .int .i64 0, .int .i64 0, .int .i64 0, .bool false, .slice none 0 0, .slice none 0 0]) rfl) 12 (.bool false) (cs' := #[.int .i64 0, .int .i64 0, .int .i64 0, .int .i64 0, .int .i64 0, .int .i64 0, .int .i64 0, .int .i64 0, .int .i64 0, .int .i64 0, .int .i64 0, .int .i64 0, .bool false, .slice none 0 0, .slice none 0 0]) rfl) 13 (.slice none 0 0) (cs' := #[.int .i64 0, .int .i64 0, .int .i64 0, .int .i64 0, .int .i64 0, .int .i64 0, .int .i64 0, .int .i64 0, .int .i64 0, .int .i64 0, .int .i64 0, .int .i64 0, .bool false, .slice none 0 0, .slice none 0 0]) rfl) 14 (.slice none 0 0) (cs' := #[.int .i64 0, .int .i64 0, .int .i64 0, .int .i64 0, .int .i64 0, .int .i64 0, .int .i64 0, .int .i64 0, .int .i64 0, .int .i64 0, .int .i64 0, .int .i64 0, .bool false, .slice none 0 0, .slice none 0 0]) rfl); clear ZB ZX x_zc0 x_zf0 x_zc1 x_zf1 x_zc2 x_zf2 x_zc3 x_zf3 x_zc4 x_zf4 x_zc5 x_zf5 x_zc6 x_zf6 x_zc7 x_zf7 x_zc8 x_zf8 x_zc9 x_zf9 x_zc10 x_zf10 x_zc11 x_zf11 x_zc12 x_zf12 x_zc13 x_zf13 x_zc14 x_zf14; generalize (((((((((((((((w8m.setCell ⟨g8, 0, none⟩ (.int .i64 0)).setCell ⟨g8, 1, none⟩ (.int .i64 0)).setCell ⟨g8, 2, none⟩ (.int .i64 0)).setCell ⟨g8, 3, none⟩ (.int .i64 0)).setCell ⟨g8, 4, none⟩ (.int .i64 0)).setCell ⟨g8, 5, none⟩ (.int .i64 0)).setCell ⟨g8, 6, none⟩ (.int .i64 0)).setCell ⟨g8, 7, none⟩ (.int .i64 0)).setCell ⟨g8, 8, none⟩ (.int .i64 0)).setCell ⟨g8, 9, none⟩ (.int .i64 0)).setCell ⟨g8, 10, none⟩ (.int .i64 0)).setCell ⟨g8, 11, none⟩ (.int .i64 0)).setCell ⟨g8, 12, none⟩ (.bool false)).setCell ⟨g8, 13, none⟩ (.slice none 0 0)).setCell ⟨g8, 14, none⟩ (.slice none 0 0)) = w8 at NB8 X8 ⊢; have N8 := Aside0.mk (N7.out.below NB8.out); 
  refine start_ (n := 25) (S := fun w' => True) (ds := []) #[false, false, false, false, false, false, false, false, false, false, false, false, false, false, false, false, false, false, false, false, false, false, false, false, false] (by kernel_rfl) rfl rfl trivial (fun hHeld => ?_)
  refine pure_ (i := 0) (N := some 64) (v := ?_) (a' := ?_) #[true, false, false, false, false, false, false, false, false, false, false, false, false, false, false, false, false, false, false, false, false, false, false, false, false] rfl rfl (by kernel_rfl) (fun _ _ _ h => h) (Or.inl ⟨by rfl, ?_⟩) ?_ ?_
  rotate_left
  · intro w'
    go_simp
    with_reducible rfl
  rotate_left
  · simp only [Act.put, List.setIfInBounds_toArray, List.set_cons_zero, List.set_cons_succ, i64_w, i32_w]
    rfl
  refine pure_ (i := 1) (N := some 65) (v := ?_) (a' := ?_) #[true, true, false, false, false, false, false, false, false, false, false, false, false, false, false, false, false, false, false, false, false, false, false, false, false] rfl rfl (by kernel_rfl) (fun _ _ _ h => h) (Or.inl ⟨by rfl, ?_⟩) ?_ ?_
  rotate_left
  · intro w'
    go_simp
    with_reducible rfl
  rotate_left
  · simp only [Act.put, List.setIfInBounds_toArray, List.set_cons_zero, List.set_cons_succ, i64_w, i32_w]
    rfl
  refine pure_ (i := 2) (N := some 66) (v := ?_) (a' := ?_) #[true, true, true, false, false, false, false, false, false, false, false, false, false, false, false, false, false, false, false, false, false, false, false, false, false] rfl rfl (by kernel_rfl) (fun _ _ _ h => h) (Or.inl ⟨by rfl, ?_⟩) ?_ ?_
  rotate_left
  · intro w'
    go_simp
    with_reducible rfl
  rotate_left
  · simp only [Act.put, List.setIfInBounds_toArray, List.set_cons_zero, List.set_cons_succ, i64_w, i32_w]
    rfl
  refine pure_ (i := 3) (N := some 67) (v := ?_) (a' := ?_) #[true, true, true, true, false, false, false, false, false, false, false, false, false, false, false, false, false, false, false, false, false, false, false, false, false] rfl rfl (by kernel_rfl) (fun _ _ _ h => h) (Or.inl ⟨by rfl, ?_⟩) ?_ ?_
  rotate_left
  · intro w'
    go_simp
    with_reducible rfl
  rotate_left
  · simp only [Act.put, List.setIfInBounds_toArray, List.set_cons_zero, List.set_cons_succ, i64_w, i32_w]
    rfl
  refine pure_ (i := 4) (N := some 68) (v := ?_) (a' := ?_) #[true, true, true, true, true, false, false, false, false, false, false, false, false, false, false, false, false, false, false, false, false, false, false, false, false] rfl rfl (by kernel_rfl) (fun _ _ _ h => h) (Or.inl ⟨by rfl, ?_⟩) ?_ ?_
  rotate_left
  · intro w'
    go_simp
    with_reducible rfl
  rotate_left
  · simp only [Act.put, List.setIfInBounds_toArray, List.set_cons_zero, List.set_cons_succ, i64_w, i32_w]
    rfl
  refine pure_ (i := 5) (N := some 69) (v := ?_) (a' := ?_) #[true, true, true, true, true, true, false, false, false, false, false, false, false, false, false, false, false, false, false, false, false, false, false, false, false] rfl rfl (by kernel_rfl) (fun _ _ _ h => h) (Or.inl ⟨by rfl, ?_⟩) ?_ ?_
  rotate_left
  · intro w'
    go_simp
    with_reducible rfl
  rotate_left
  · simp only [Act.put, List.setIfInBounds_toArray, List.set_cons_zero, List.set_cons_succ, i64_w, i32_w]
    rfl
  refine pure_ (i := 6) (N := some 70) (v := ?_) (a' := ?_) #[true, true, true, true, true, true, true, false, false, false, false, false, false, false, false, false, false, false, false, false, false, false, false, false, false] rfl rfl (by kernel_rfl) (fun _ _ _ h => h) (Or.inl ⟨by rfl, ?_⟩) ?_ ?_
  rotate_left
  · intro w'
    go_simp
    with_reducible rfl
  rotate_left
  · simp only [Act.put, List.setIfInBounds_toArray, List.set_cons_zero, List.set_cons_succ, i64_w, i32_w]
    rfl
  refine pure_ (i := 7) (N := some 71) (v := undef) (a' := ?_) #[true, true, true, true, true, true, true, true, false, false, false, false, false, false, false, false, false, false, false, false, false, false, false, false, false] rfl rfl (by kernel_rfl) (fun _ _ _ h => h) (Or.inr ⟨by rfl, rfl⟩) ?_ ?_
  rotate_left
  · simp only [Act.put, List.setIfInBounds_toArray, List.set_cons_zero, List.set_cons_succ, i64_w, i32_w]
    rfl
  refine pure_ (i := 8) (N := some 72) (v := undef) (a' := ?_) #[true, true, true, true, true, true, true, true, true, false, false, false, false, false, false, false, false, false, false, false, false, false, false, false, false] rfl rfl (by kernel_rfl) (fun _ _ _ h => h) (Or.inr ⟨by rfl, rfl⟩) ?_ ?_
  rotate_left
  · simp only [Act.put, List.setIfInBounds_toArray, List.set_cons_zero, List.set_cons_succ, i64_w, i32_w]
    rfl
  refine pure_ (i := 9) (N := some 73) (v := undef) (a' := ?_) #[true, true, true, true, true, true, true, true, true, true, false, false, false, false, false, false, false, false, false, false, false, false, false, false, false] rfl rfl (by kernel_rfl) (fun _ _ _ h => h) (Or.inr ⟨by rfl, rfl⟩) ?_ ?_
  rotate_left
  · simp only [Act.put, List.setIfInBounds_toArray, List.set_cons_zero, List.set_cons_succ, i64_w, i32_w]
    rfl
  refine pure_ (i := 10) (N := some 74) (v := undef) (a' := ?_) #[true, true, true, true, true, true, true, true, true, true, true, false, false, false, false, false, false, false, false, false, false, false, false, false, false] rfl rfl (by kernel_rfl) (fun _ _ _ h => h) (Or.inr ⟨by rfl, rfl⟩) ?_ ?_
  rotate_left
  · simp only [Act.put, List.setIfInBounds_toArray, List.set_cons_zero, List.set_cons_succ, i64_w, i32_w]
    rfl
  refine pure_ (i := 11) (N := some 75) (v := undef) (a' := ?_) #[true, true, true, true, true, true, true, true, true, true, true, true, false, false, false, false, false, false, false, false, false, false, false, false, false] rfl rfl (by kernel_rfl) (fun _ _ _ h => h) (Or.inr ⟨by rfl, rfl⟩) ?_ ?_
  rotate_left
  · simp only [Act.put, List.setIfInBounds_toArray, List.set_cons_zero, List.set_cons_succ, i64_w, i32_w]
    rfl
  refine pure_ (i := 12) (N := some 76) (v := undef) (a' := ?_) #[true, true, true, true, true, true, true, true, true, true, true, true, true, false, false, false, false, false, false, false, false, false, false, false, false] rfl rfl (by kernel_rfl) (fun _ _ _ h => h) (Or.inr ⟨by rfl, rfl⟩) ?_ ?_
  rotate_left
  · simp only [Act.put, List.setIfInBounds_toArray, List.set_cons_zero, List.set_cons_succ, i64_w, i32_w]
    rfl
  refine pure_ (i := 13) (N := some 77) (v := undef) (a' := ?_) #[true, true, true, true, true, true, true, true, true, true, true, true, true, true, false, false, false, false, false, false, false, false, false, false, false] rfl rfl (by kernel_rfl) (fun _ _ _ h => h) (Or.inr ⟨by rfl, rfl⟩) ?_ ?_
  rotate_left
  · simp only [Act.put, List.setIfInBounds_toArray, List.set_cons_zero, List.set_cons_succ, i64_w, i32_w]
    rfl
  refine pure_ (i := 14) (N := some 78) (v := undef) (a' := ?_) #[true, true, true, true, true, true, true, true, true, true, true, true, true, true, true, false, false, false, false, false, false, false, false, false, false] rfl rfl (by kernel_rfl) (fun _ _ _ h => h) (Or.inr ⟨by rfl, rfl⟩) ?_ ?_
  rotate_left
  · simp only [Act.put, List.setIfInBounds_toArray, List.set_cons_zero, List.set_cons_succ, i64_w, i32_w]
    rfl
  refine pure_ (i := 15) (N := some 79) (v := ?_) (a' := ?_) #[true, true, true, true, true, true, true, true, true, true, true, true, true, true, true, true, false, false, false, false, false, false, false, false, false] rfl rfl (by kernel_rfl) (fun _ _ _ h => h) (Or.inl ⟨by rfl, ?_⟩) ?_ ?_
  rotate_left
  · intro w'
    go_simp
    with_reducible rfl
  rotate_left
  · simp only [Act.put, List.setIfInBounds_toArray, List.set_cons_zero, List.set_cons_succ, i64_w, i32_w]
    rfl
  refine pure_ (i := 16) (N := some 80) (v := ?_) (a' := ?_) #[true, true, true, true, true, true, true, true, true, true, true, true, true, true, true, true, true, false, false, false, false, false, false, false, false] rfl rfl (by kernel_rfl) (fun _ _ _ h => h) (Or.inl ⟨by rfl, ?_⟩) ?_ ?_
  rotate_left
  · intro w'
    go_simp
    with_reducible rfl
  rotate_left
  · simp only [Act.put, List.setIfInBounds_toArray, List.set_cons_zero, List.set_cons_succ, i64_w, i32_w]
    rfl
  refine pure_ (i := 17) (N := some 81) (v := ?_) (a' := ?_) #[true, true, true, true, true, true, true, true, true, true, true, true, true, true, true, true, true, true, false, false, false, false, false, false, false] rfl rfl (by kernel_rfl) (fun _ _ _ h => h) (Or.inl ⟨by rfl, ?_⟩) ?_ ?_
  rotate_left
  · intro w'
    go_simp
    with_reducible rfl
  rotate_left
  · simp only [Act.put, List.setIfInBounds_toArray, List.set_cons_zero, List.set_cons_succ, i64_w, i32_w]
    rfl
  refine pure_ (i := 18) (N := some 82) (v := ?_) (a' := ?_) #[true, true, true, true, true, true, true, true, true, true, true, true, true, true, true, true, true, true, true, false, false, false, false, false, false] rfl rfl (by kernel_rfl) (fun _ _ _ h => h) (Or.inl ⟨by rfl, ?_⟩) ?_ ?_
  rotate_left
  · intro w'
    go_simp
    with_reducible rfl
  rotate_left
  · simp only [Act.put, List.setIfInBounds_toArray, List.set_cons_zero, List.set_cons_succ, i64_w, i32_w]
    rfl
  refine pure_ (i := 19) (N := some 83) (v := ?_) (a' := ?_) #[true, true, true, true, true, true, true, true, true, true, true, true, true, true, true, true, true, true, true, true, false, false, false, false, false] rfl rfl (by kernel_rfl) (fun _ _ _ h => h) (Or.inl ⟨by rfl, ?_⟩) ?_ ?_
  rotate_left
  · intro w'
    go_simp
    with_reducible rfl
  rotate_left
  · simp only [Act.put, List.setIfInBounds_toArray, List.set_cons_zero, List.set_cons_succ, i64_w, i32_w]
    rfl
  refine pure_ (i := 20) (N := some 84) (v := ?_) (a' := ?_) #[true, true, true, true, true, true, true, true, true, true, true, true, true, true, true, true, true, true, true, true, true, false, false, false, false] rfl rfl (by kernel_rfl) (fun _ _ _ h => h) (Or.inl ⟨by rfl, ?_⟩) ?_ ?_
  rotate_left
  · intro w'
    go_simp
    with_reducible rfl
  rotate_left
  · simp only [Act.put, List.setIfInBounds_toArray, List.set_cons_zero, List.set_cons_succ, i64_w, i32_w]
    rfl
  refine pure_ (i := 21) (N := some 85) (v := ?_) (a' := ?_) #[true, true, true, true, true, true, true, true, true, true, true, true, true, true, true, true, true, true, true, true, true, true, false, false, false] rfl rfl (by kernel_rfl) (fun _ _ _ h => h) (Or.inl ⟨by rfl, ?_⟩) ?_ ?_
  rotate_left
  · intro w'
    go_simp
    with_reducible rfl
  rotate_left
  · simp only [Act.put, List.setIfInBounds_toArray, List.set_cons_zero, List.set_cons_succ, i64_w, i32_w]
    rfl
  refine pure_ (i := 22) (N := some 86) (v := ?_) (a' := ?_) #[true, true, true, true, true, true, true, true, true, true, true, true, true, true, true, true, true, true, true, true, true, true, true, false, false] rfl rfl (by kernel_rfl) (fun _ _ _ h => h) (Or.inl ⟨by rfl, ?_⟩) ?_ ?_
  rotate_left
  · intro w'
    go_simp
    with_reducible rfl
  rotate_left
  · simp only [Act.put, List.setIfInBounds_toArray, List.set_cons_zero, List.set_cons_succ, i64_w, i32_w]
    rfl
  refine pure_ (i := 23) (N := some 87) (v := ?_) (a' := ?_) #[true, true, true, true, true, true, true, true, true, true, true, true, true, true, true, true, true, true, true, true, true, true, true, true, false] rfl rfl (by kernel_rfl) (fun _ _ _ h => h) (Or.inl ⟨by rfl, ?_⟩) ?_ ?_
  rotate_left
  · intro w'
    go_simp
    with_reducible rfl
  rotate_left
  · simp only [Act.put, List.setIfInBounds_toArray, List.set_cons_zero, List.set_cons_succ, i64_w, i32_w]
    rfl
  refine pure_ (i := 24) (N := some 88) (v := ?_) (a' := ?_) #[true, true, true, true, true, true, true, true, true, true, true, true, true, true, true, true, true, true, true, true, true, true, true, true, true] rfl rfl (by kernel_rfl) (fun _ _ _ h => h) (Or.inl ⟨by rfl, ?_⟩) ?_ ?_
  rotate_left
  · intro w'
    go_simp
    with_reducible rfl
  rotate_left
  · simp only [Act.put, List.setIfInBounds_toArray, List.set_cons_zero, List.set_cons_succ, i64_w, i32_w]
    rfl
  refine done_ (by kernel_rfl) ?_
  have N9 := Aside0.mk N8.out.drew
  go_wp2_with fail
  clear d1 d2 d3 q1 q2 q3 y0 y1 y2
  refine (net_Len N9.out.net).mono ?_; rintro x w90 ⟨rfl, hb⟩; have N90 := Aside0.mk (N9.out.below hb); clear hb
  go_wp2_with fail
  exact HK.out _ _ _ _ _ _ _ _ _ _ _ _ _ _ _ _ _ _ _ _ _ _ _ _ _ _ _ _ _ _ _ _ _ _ _ _ _ _ _ _ _ _ _ _ _ _ _ _ _ _ _ _ _ _ _ _ _ _ _ _ _ _ _ _ _ _ _ _ _ _ _ _ _ _ _ _ _ _ _ _ _ _ _ _ _ _ _ _ _ _ _ _ _ _ _ _ _ _ _ _ _ _ _ _ _ _ _ _ _ _ _ _ _ _ _ _ _ _ _ _ _ _ _ _ _ _ _ _ _ _ _ _ _ _ _ _ _ _ _ _ _ _ _ _ _ _ _ _ _ _ _ _ _ w90 (ms) (by first | rw [b2] | rfl) (by have := HL.out; omega) (by first | exact N90.out.any | (have h := N90.out.any; simp only [List.length_append, List.length_singleton] at h ⊢; exact h))
set_option maxHeartbeats 16000000 in
set_option maxRecDepth 100000 in
theorem np_2neg {w wr : World} {l0 : List S28} {c0 g3 i c4 c2 : Nat} {ms ps : List S37} {A4 A2 : Option Addr} {ad0 : Addr} {ok_ oi : Int} {u2 u6 u7 u8 u9 u10 u11 u12 u24 u25 u26 u27 u28 u29 u30 u31 u32 u33 u34 u35 u36 u37 u38 u39 u40 u41 u42 u43 u44 u45 u46 u47 u48 u49 u50 u51 u52 u53 u54 u55 u56 u57 u58 u59 u60 u61 u62 u63 u64 u65 u66 u67 u68 u69 u70 u71 u72 u73 u74 u75 u76 u77 u78 u79 u80 u81 u82 u83 u84 u85 u86 u87 u88 u89 u90 u91 u92 u93 u94 u95 u96 u97 u98 u99 u100 u101 u102 u103 u104 u105 u106 u107 u108 u109 u110 u111 u112 u113 u114 u115 u116 u117 u118 u119 u120 u121 u122 u123 u124 u125 u126 u127 u128 u129 u130 u131 u132 u133 u134 u135 u136 u137 u138 u139 u140 u141 u142 u143 u144 u145 u146 u147 u148 u149 u150 u151 u152 u153 u154 u155 u156 u157 u158 u159 u160 u161 u162 u163 u164 u165 u166 : Value} {K K1 : Act → World → Prop}
    (hi : i < l0.length) (h60 : l0.length ≤ 60) (hl : ms.length ≤ 50 * i) (n4 : MN w wr g3 (.slice A4 ms.length c4) ms ms (fun _ => True))
    (y0 : wr.cell? (ad0.add (i * 3)) = some (.int .i64 ok_)) (y1 : wr.cell? ⟨(ad0.add (i * 3)).block, (ad0.add (i * 3)).off + 1, none⟩ = some (.int .i64 oi)) (y2 : wr.cell? ⟨(ad0.add (i * 3)).block, (ad0.add (i * 3)).off + 2, none⟩ = some (.slice A2 ps.length c2))
    (l2 : ps.length ≤ c2) (g2 : Kd.C k37 w A2 ps.length ps) (hfp : ∀ y ∈ ps, Fit y) (hk0 : ¬ok_ = 0) (hk1 : ¬ok_ = 1) (hk2 : ok_ = 2) (hth : ¬0 ≤ oi)
    (hK : ∀ (u2 u6 u7 u8 u9 u10 u11 u12 u24 u25 u26 u27 u28 u29 u30 u31 u32 u33 u34 u35 u36 u37 u38 u39 u40 u41 u42 u43 u44 u45 u46 u47 u48 u49 u50 u51 u52 u53 u54 u55 u56 u57 u58 u59 u60 u61 u62 u63 u64 u65 u66 u67 u68 u69 u70 u71 u72 u73 u74 u75 u76 u77 u78 u79 u80 u81 u82 u83 u84 u85 u86 u87 u88 u89 u90 u91 u92 u93 u94 u95 u96 u97 u98 u99 u100 u101 u102 u103 u104 u105 u106 u107 u108 u109 u110 u111 u112 u113 u114 u115 u116 u117 u118 u119 u120 u121 u122 u123 u124 u125 u126 u127 u128 u129 u130 u131 u132 u133 u134 u135 u136 u137 u138 u139 u140 u141 u142 u143 u144 u145 u146 u147 u148 u149 u150 u151 u152 u153 u154 u155 u156 u157 u158 u159 u160 u161 u162 u163 u164 u165 u166 v4 v23 : Value) (w' : World) (ms' : List S37), v23 = .int .i64 ((i + 1 : Nat) : Int) → ms'.length ≤ 50 * (i + 1) → MN w w' g3 v4 ms' ms' (fun _ => True) → K ⟨#[.slice (some ad0) l0.length c0, undef, u2, .pointer (some ⟨g3, 0, none⟩), v4, undef, u6, u7, u8, u9, u10, u11, u12, undef, undef, undef, .bool true, .bool false, .slice (some ad0) l0.length c0, .int .i64 (l0.length : Int), .bool false, .slice (some ad0) l0.length c0, .int .i64 (l0.length : Int), v23, u24, u25, u26, u27, u28, u29, u30, u31, u32, u33, u34, u35, u36, u37, u38, u39, u40, u41, u42, u43, u44, u45, u46, u47, u48, u49, u50, u51, u52, u53, u54, u55, u56, u57, u58, u59, u60, u61, u62, u63, u64, u65, u66, u67, u68, u69, u70, u71, u72, u73, u74, u75, u76, u77, u78, u79, u80, u81, u82, u83, u84, u85, u86, u87, u88, u89, u90, u91, u92, u93, u94, u95, u96, u97, u98, u99, u100, u101, u102, u103, u104, u105, u106, u107, u108, u109, u110, u111, u112, u113, u114, u115, u116, u117, u118, u119, u120, u121, u122, u123, u124, u125, u126, u127, u128, u129, u130, u131, u132, u133, u134, u135, u136, u137, u138, u139, u140, u141, u142, u143, u144, u145, u146, u147, u148, u149, u150, u151, u152, u153, u154, u155, u156, u157, u158, u159, u160, u161, u162, u163, u164, u165, u166, undef, undef, undef, undef, undef, undef, undef, undef, undef, undef, undef, undef, undef, undef, undef, undef, undef, undef, undef, undef, undef, undef], []⟩ w') :
    Code.wp Try.prog npBody (Exit.then K (Exit.inBlock 0 (Exit.then K1 (bodyPost Try.prog Try.f3 (fun e w' => e = .returned (.bool true) ∧ Below w.heap.size w w'))))) ⟨#[.slice (some ad0) l0.length c0, undef, u2, .pointer (some ⟨g3, 0, none⟩), .slice A4 ms.length c4, undef, u6, u7, u8, u9, u10, u11, u12, undef, undef, undef, .bool true, .bool false, .slice (some ad0) l0.length c0, .int .i64 (l0.length : Int), .bool false, .slice (some ad0) l0.length c0, .int .i64 (l0.length : Int), .int .i64 (i : Int), u24, u25, u26, u27, u28, u29, u30, u31, u32, u33, u34, u35, u36, u37, u38, u39, u40, u41, u42, u43, u44, u45, u46, u47, u48, u49, u50, u51, u52, u53, u54, u55, u56, u57, u58, u59, u60, u61, u62, u63, u64, u65, u66, u67, u68, u69, u70, u71, u72, u73, u74, u75, u76, u77, u78, u79, u80, u81, u82, u83, u84, u85, u86, u87, u88, u89, u90, u91, u92, u93, u94, u95, u96, u97, u98, u99, u100, u101, u102, u103, u104, u105, u106, u107, u108, u109, u110, u111, u112, u113, u114, u115, u116, u117, u118, u119, u120, u121, u122, u123, u124, u125, u126, u127, u128, u129, u130, u131, u132, u133, u134, u135, u136, u137, u138, u139, u140, u141, u142, u143, u144, u145, u146, u147, u148, u149, u150, u151, u152, u153, u154, u155, u156, u157, u158, u159, u160, u161, u162, u163, u164, u165, u166, undef, undef, undef, undef, undef, undef, undef, undef, undef, undef, undef, undef, undef, undef, undef, undef, undef, undef, undef, undef, undef, undef], []⟩ wr := by
  have d1 : decide ((i : Int) < (l0.length : Int)) = true := decide_eq_true (by omega)
  have d2 : decide (i < l0.length) = true := decide_eq_true hi
  have d3 : (i < l0.length) = True := eq_true hi
  have hi0 : (0 : Int) ≤ (i : Int) := by omega
  have hi1 : (i : Int) < (l0.length : Int) := by omega
  have G2 := Aside0.mk g2; have FP := Aside0.mk hfp; have L2 := Aside0.mk l2; have HL := Aside0.mk hl; have N4 := Aside0.mk n4; have HK := Aside0.mk hK
  have b2 : wrap64 ((i : Int) + 1) = ((i + 1 : Nat) : Int) := by unfold wrap64; omega
  have q1 := eq_true hi0; have q2 := eq_true hi1; have q3 : decide ((0 : Int) ≤ (i : Int)) = true := decide_eq_true hi0
  have HLM := Aside0.mk (show ms.length ≤ 3000 by omega)
  have N5_ := Aside0.mk N4.out.bnd; have ZW := Aside0.mk (Nat.le_refl wr.heap.size)
  clear hi h60 hl n4 g2 hfp l2 hK hi0 hi1
  conv => arg 2; whnf
  have t0 : (ok_ == 0) = false := by rw [hk2]; decide
  have t1 : (ok_ == 1) = false := by rw [hk2]; decide
  have t2 : (ok_ == 2) = true := by rw [hk2]; decide
  have t3 : (ok_ == 3) = false := by rw [hk2]; decide
  clear hk0 hk1 hk2
  have th1 : decide (oi ≥ 0) = false := decide_eq_false hth
  have th2 : decide (0 ≤ oi) = false := decide_eq_false hth
  have HJ := Aside0.mk (show ¬(0 ≤ oi ∧ oi < (ms.length : Int)) from fun q => hth q.1)
  clear hth
  go_wp2_with (first | ((with_reducible refine gate_dst (N := 6) rfl ?_); refine box_event ?hg (N := 6) ?hd (cs := #[.int .i64 0, .int .i64 0, .slice none 0 0]) (t := 28) ?hr ?_; (case hd => rfl); (case hg => rfl); (case hr => first | (go_simp; done) | (go_simp; rfl)); intro g6 hg w5m hbox hb; have ZB := Aside0.mk hb; have ZX := Aside0.mk hbox; have X5g := Aside0.mk (show wr.heap.size ≤ g6 from by rw [hg]; exact Nat.le_refl _); have o_zc0 : w5m.cell? ⟨g6, 0, none⟩ = some (.int .i64 0) := (blk_cell ZX.out 0).trans rfl; have o_zf0 := blk_frozen ZX.out 0; have o_zc1 : w5m.cell? ⟨g6, 1, none⟩ = some (.int .i64 0) := (blk_cell ZX.out 1).trans rfl; have o_zf1 := blk_frozen ZX.out 1; have o_zc2 : w5m.cell? ⟨g6, 2, none⟩ = some (.slice none 0 0) := (blk_cell ZX.out 2).trans rfl; have o_zf2 := blk_frozen ZX.out 2; clear hb hg hbox) | ((with_reducible refine gate_dst (N := 27) rfl ?_); have NB5 := Aside0.mk (below_setB (below_setB (below_setB ZB.out (p := ⟨g6, 0, none⟩) X5g.out (.int .i64 ok_)) (p := ⟨g6, 1, none⟩) X5g.out (.int .i64 oi)) (p := ⟨g6, 2, none⟩) X5g.out (.slice A2 ps.length c2)); have X5 := Aside0.mk (blk_put (blk_put (blk_put ZX.out 0 (.int .i64 ok_) (cs' := #[.int .i64 ok_, .int .i64 0, .slice none 0 0]) rfl) 1 (.int .i64 oi) (cs' := #[.int .i64 ok_, .int .i64 oi, .slice none 0 0]) rfl) 2 (.slice A2 ps.length c2) (cs' := #[.int .i64 ok_, .int .i64 oi, .slice A2 ps.length c2]) rfl); clear ZB ZX o_zc0 o_zf0 o_zc1 o_zf1 o_zc2 o_zf2; generalize (((w5m.setCell ⟨g6, 0, none⟩ (.int .i64 ok_)).setCell ⟨g6, 1, none⟩ (.int .i64 oi)).setCell ⟨g6, 2, none⟩ (.slice A2 ps.length c2)) = w5 at NB5 X5 ⊢; have N5 := Aside0.mk (N5_.out.below NB5.out); have o_c0 : w5.cell? ⟨g6, 0, none⟩ = some (.int .i64 ok_) := (blk_cell X5.out 0).trans rfl; have o_f0 := blk_frozen X5.out 0; have o_c1 : w5.cell? ⟨g6, 1, none⟩ = some (.int .i64 oi) := (blk_cell X5.out 1).trans rfl; have o_f1 := blk_frozen X5.out 1; have o_c2 : w5.cell? ⟨g6, 2, none⟩ = some (.slice A2 ps.length c2) := (blk_cell X5.out 2).trans rfl; have o_f2 := blk_frozen X5.out 2))
  refine (net_Twice_bad N5.out.net HJ.out).mono ?_; rintro x w7 ⟨rfl, hb⟩; have N7 := Aside0.mk (N5.out.below hb); clear hb o_c0 o_f0 o_c1 o_f1 o_c2 o_f2
  go_wp2_with fail
  clear d1 d2 d3 q1 q2 q3 y0 y1 y2
  refine (net_Len N7.out.net).mono ?_; rintro x w90 ⟨rfl, hb⟩; have N90 := Aside0.mk (N7.out.below hb); clear hb
  go_wp2_with fail
  exact HK.out _ _ _ _ _ _ _ _ _ _ _ _ _ _ _ _ _ _ _ _ _ _ _ _ _ _ _ _ _ _ _ _ _ _ _ _ _ _ _ _ _ _ _ _ _ _ _ _ _ _ _ _ _ _ _ _ _ _ _ _ _ _ _ _ _ _ _ _ _ _ _ _ _ _ _ _ _ _ _ _ _ _ _ _ _ _ _ _ _ _ _ _ _ _ _ _ _ _ _ _ _ _ _ _ _ _ _ _ _ _ _ _ _ _ _ _ _ _ _ _ _ _ _ _ _ _ _ _ _ _ _ _ _ _ _ _ _ _ _ _ _ _ _ _ _ _ _ _ _ _ _ _ _ w90 (ms) (by first | rw [b2] | rfl) (by have := HL.out; omega) (by first | exact N90.out.any | (have h := N90.out.any; simp only [List.length_append, List.length_singleton] at h ⊢; exact h))
set_option maxHeartbeats 16000000 in
set_option maxRecDepth 100000 in
theorem np_3neg {w wr : World} {l0 : List S28} {c0 g3 i c4 c2 : Nat} {ms ps : List S37} {A4 A2 : Option Addr} {ad0 : Addr} {ok_ oi : Int} {u2 u6 u7 u8 u9 u10 u11 u12 u24 u25 u26 u27 u28 u29 u30 u31 u32 u33 u34 u35 u36 u37 u38 u39 u40 u41 u42 u43 u44 u45 u46 u47 u48 u49 u50 u51 u52 u53 u54 u55 u56 u57 u58 u59 u60 u61 u62 u63 u64 u65 u66 u67 u68 u69 u70 u71 u72 u73 u74 u75 u76 u77 u78 u79 u80 u81 u82 u83 u84 u85 u86 u87 u88 u89 u90 u91 u92 u93 u94 u95 u96 u97 u98 u99 u100 u101 u102 u103 u104 u105 u106 u107 u108 u109 u110 u111 u112 u113 u114 u115 u116 u117 u118 u119 u120 u121 u122 u123 u124 u125 u126 u127 u128 u129 u130 u131 u132 u133 u134 u135 u136 u137 u138 u139 u140 u141 u142 u143 u144 u145 u146 u147 u148 u149 u150 u151 u152 u153 u154 u155 u156 u157 u158 u159 u160 u161 u162 u163 u164 u165 u166 : Value} {K K1 : Act → World → Prop}
    (hi : i < l0.length) (h60 : l0.length ≤ 60) (hl : ms.length ≤ 50 * i) (n4 : MN w wr g3 (.slice A4 ms.length c4) ms ms (fun _ => True))
    (y0 : wr.cell? (ad0.add (i * 3)) = some (.int .i64 ok_)) (y1 : wr.cell? ⟨(ad0.add (i * 3)).block, (ad0.add (i * 3)).off + 1, none⟩ = some (.int .i64 oi)) (y2 : wr.cell? ⟨(ad0.add (i * 3)).block, (ad0.add (i * 3)).off + 2, none⟩ = some (.slice A2 ps.length c2))
    (l2 : ps.length ≤ c2) (g2 : Kd.C k37 w A2 ps.length ps) (hfp : ∀ y ∈ ps, Fit y) (hk0 : ¬ok_ = 0) (hk1 : ¬ok_ = 1) (hk2 : ¬ok_ = 2) (hk3 : ok_ = 3) (hth : ¬0 ≤ oi)
    (hK : ∀ (u2 u6 u7 u8 u9 u10 u11 u12 u24 u25 u26 u27 u28 u29 u30 u31 u32 u33 u34 u35 u36 u37 u38 u39 u40 u41 u42 u43 u44 u45 u46 u47 u48 u49 u50 u51 u52 u53 u54 u55 u56 u57 u58 u59 u60 u61 u62 u63 u64 u65 u66 u67 u68 u69 u70 u71 u72 u73 u74 u75 u76 u77 u78 u79 u80 u81 u82 u83 u84 u85 u86 u87 u88 u89 u90 u91 u92 u93 u94 u95 u96 u97 u98 u99 u100 u101 u102 u103 u104 u105 u106 u107 u108 u109 u110 u111 u112 u113 u114 u115 u116 u117 u118 u119 u120 u121 u122 u123 u124 u125 u126 u127 u128 u129 u130 u131 u132 u133 u134 u135 u136 u137 u138 u139 u140 u141 u142 u143 u144 u145 u146 u147 u148 u149 u150 u151 u152 u153 u154 u155 u156 u157 u158 u159 u160 u161 u162 u163 u164 u165 u166 v4 v23 : Value) (w' : World) (ms' : List S37), v23 = .int .i64 ((i + 1 : Nat) : Int) → ms'.length ≤ 50 * (i + 1) → MN w w' g3 v4 ms' ms' (fun _ => True) → K ⟨#[.slice (some ad0) l0.length c0, undef, u2, .pointer (some ⟨g3, 0, none⟩), v4, undef, u6, u7, u8, u9, u10, u11, u12, undef, undef, undef, .bool true, .bool false, .slice (some ad0) l0.length c0, .int .i64 (l0.length : Int), .bool false, .slice (some ad0) l0.length c0, .int .i64 (l0.length : Int), v23, u24, u25, u26, u27, u28, u29, u30, u31, u32, u33, u34, u35, u36, u37, u38, u39, u40, u41, u42, u43, u44, u45, u46, u47, u48, u49, u50, u51, u52, u53, u54, u55, u56, u57, u58, u59, u60, u61, u62, u63, u64, u65, u66, u67, u68, u69, u70, u71, u72, u73, u74, u75, u76, u77, u78, u79, u80, u81, u82, u83, u84, u85, u86, u87, u88, u89, u90, u91, u92, u93, u94, u95, u96, u97, u98, u99, u100, u101, u102, u103, u104, u105, u106, u107, u108, u109, u110, u111, u112, u113, u114, u115, u116, u117, u118, u119, u120, u121, u122, u123, u124, u125, u126, u127, u128, u129, u130, u131, u132, u133, u134, u135, u136, u137, u138, u139, u140, u141, u142, u143, u144, u145, u146, u147, u148, u149, u150, u151, u152, u153, u154, u155, u156, u157, u158, u159, u160, u161, u162, u163, u164, u165, u166, undef, undef, undef, undef, undef, undef, undef, undef, undef, undef, undef, undef, undef, undef, undef, undef, undef, undef, undef, undef, undef, undef], []⟩ w') :
    Code.wp Try.prog npBody (Exit.then K (Exit.inBlock 0 (Exit.then K1 (bodyPost Try.prog Try.f3 (fun e w' => e = .returned (.bool true) ∧ Below w.heap.size w w'))))) ⟨#[.slice (some ad0) l0.length c0, undef, u2, .pointer (some ⟨g3, 0, none⟩), .slice A4 ms.length c4, undef, u6, u7, u8, u9, u10, u11, u12, undef, undef, undef, .bool true, .bool false, .slice (some ad0) l0.length c0, .int .i64 (l0.length : Int), .bool false, .slice (some ad0) l0.length c0, .int .i64 (l0.length : Int), .int .i64 (i : Int), u24, u25, u26, u27, u28, u29, u30, u31, u32, u33, u34, u35, u36, u37, u38, u39, u40, u41, u42, u43, u44, u45, u46, u47, u48, u49, u50, u51, u52, u53, u54, u55, u56, u57, u58, u59, u60, u61, u62, u63, u64, u65, u66, u67, u68, u69, u70, u71, u72, u73, u74, u75, u76, u77, u78, u79, u80, u81, u82, u83, u84, u85, u86, u87, u88, u89, u90, u91, u92, u93, u94, u95, u96, u97, u98, u99, u100, u101, u102, u103, u104, u105, u106, u107, u108, u109, u110, u111, u112, u113, u114, u115, u116, u117, u118, u119, u120, u121, u122, u123, u124, u125, u126, u127, u128, u129, u130, u131, u132, u133, u134, u135, u136, u137, u138, u139, u140, u141, u142, u143, u144, u145, u146, u147, u148, u149, u150, u151, u152, u153, u154, u155, u156, u157, u158, u159, u160, u161, u162, u163, u164, u165, u166, undef, undef, undef, undef, undef, undef, undef, undef, undef, undef, undef, undef, undef, undef, undef, undef, undef, undef, undef, undef, undef, undef], []⟩ wr := by
  have d1 : decide ((i : Int) < (l0.length : Int)) = true := decide_eq_true (by omega)
  have d2 : decide (i < l0.length) = true := decide_eq_true hi
  have d3 : (i < l0.length) = True := eq_true hi
  have hi0 : (0 : Int) ≤ (i : Int) := by omega
  have hi1 : (i : Int) < (l0.length : Int) := by omega
  have G2 := Aside0.mk g2; have FP := Aside0.mk hfp; have L2 := Aside0.mk l2; have HL := Aside0.mk hl; have N4 := Aside0.mk n4; have HK := Aside0.mk hK
  have b2 : wrap64 ((i : Int) + 1) = ((i + 1 : Nat) : Int) := by unfold wrap64; omega
  have q1 := eq_true hi0; have q2 := eq_true hi1; have q3 : decide ((0 : Int) ≤ (i : Int)) = true := decide_eq_true hi0
  have HLM := Aside0.mk (show ms.length ≤ 3000 by omega)
  have N5_ := Aside0.mk N4.out.bnd; have ZW := Aside0.mk (Nat.le_refl wr.heap.size)
  clear hi h60 hl n4 g2 hfp l2 hK hi0 hi1
  conv => arg 2; whnf
  have t0 : (ok_ == 0) = false := by rw [hk3]; decide
  have t1 : (ok_ == 1) = false := by rw [hk3]; decide
  have t2 : (ok_ == 2) = false := by rw [hk3]; decide
  have t3 : (ok_ == 3) = true := by rw [hk3]; decide
  clear hk0 hk1 hk2 hk3
  have th1 : decide (oi ≥ 0) = false := decide_eq_false hth
  have th2 : decide (0 ≤ oi) = false := decide_eq_false hth
  have HJ := Aside0.mk (show ¬(0 ≤ oi ∧ oi < (ms.length : Int)) from fun q => hth q.1)
  clear hth
  go_wp2_with (first | ((with_reducible refine gate_dst (N := 6) rfl ?_); refine box_event ?hg (N := 6) ?hd (cs := #[.int .i64 0, .int .i64 0, .slice none 0 0]) (t := 28) ?hr ?_; (case hd => rfl); (case hg => rfl); (case hr => first | (go_simp; done) | (go_simp; rfl)); intro g6 hg w5m hbox hb; have ZB := Aside0.mk hb; have ZX := Aside0.mk hbox; have X5g := Aside0.mk (show wr.heap.size ≤ g6 from by rw [hg]; exact Nat.le_refl _); have o_zc0 : w5m.cell? ⟨g6, 0, none⟩ = some (.int .i64 0) := (blk_cell ZX.out 0).trans rfl; have o_zf0 := blk_frozen ZX.out 0; have o_zc1 : w5m.cell? ⟨g6, 1, none⟩ = some (.int .i64 0) := (blk_cell ZX.out 1).trans rfl; have o_zf1 := blk_frozen ZX.out 1; have o_zc2 : w5m.cell? ⟨g6, 2, none⟩ = some (.slice none 0 0) := (blk_cell ZX.out 2).trans rfl; have o_zf2 := blk_frozen ZX.out 2; clear hb hg hbox) | ((with_reducible refine gate_dst (N := 27) rfl ?_); have NB5 := Aside0.mk (below_setB (below_setB (below_setB ZB.out (p := ⟨g6, 0, none⟩) X5g.out (.int .i64 ok_)) (p := ⟨g6, 1, none⟩) X5g.out (.int .i64 oi)) (p := ⟨g6, 2, none⟩) X5g.out (.slice A2 ps.length c2)); have X5 := Aside0.mk (blk_put (blk_put (blk_put ZX.out 0 (.int .i64 ok_) (cs' := #[.int .i64 ok_, .int .i64 0, .slice none 0 0]) rfl) 1 (.int .i64 oi) (cs' := #[.int .i64 ok_, .int .i64 oi, .slice none 0 0]) rfl) 2 (.slice A2 ps.length c2) (cs' := #[.int .i64 ok_, .int .i64 oi, .slice A2 ps.length c2]) rfl); clear ZB ZX o_zc0 o_zf0 o_zc1 o_zf1 o_zc2 o_zf2; generalize (((w5m.setCell ⟨g6, 0, none⟩ (.int .i64 ok_)).setCell ⟨g6, 1, none⟩ (.int .i64 oi)).setCell ⟨g6, 2, none⟩ (.slice A2 ps.length c2)) = w5 at NB5 X5 ⊢; have N5 := Aside0.mk (N5_.out.below NB5.out); have o_c0 : w5.cell? ⟨g6, 0, none⟩ = some (.int .i64 ok_) := (blk_cell X5.out 0).trans rfl; have o_f0 := blk_frozen X5.out 0; have o_c1 : w5.cell? ⟨g6, 1, none⟩ = some (.int .i64 oi) := (blk_cell X5.out 1).trans rfl; have o_f1 := blk_frozen X5.out 1; have o_c2 : w5.cell? ⟨g6, 2, none⟩ = some (.slice A2 ps.length c2) := (blk_cell X5.out 2).trans rfl; have o_f2 := blk_frozen X5.out 2))
  refine (net_Look_bad N5.out.net HJ.out).mono ?_; rintro x w7 ⟨rfl, hb⟩; have N7 := Aside0.mk (N5.out.below hb); clear hb o_c0 o_f0 o_c1 o_f1 o_c2 o_f2
  dsimp only [pkV, z37, z35, z31, List.length_nil]
  go_upto_region 32 with (first | ((with_reducible refine gate_dst (N := 11) rfl ?_); refine box_event ?hg (N := 11) ?hd (cs := #[.int .i64 0, .int .i64 0, .int .i64 0, .int .i64 0, .int .i64 0, .int .i64 0, .int .i64 0, .int .i64 0, .int .i64 0, .int .i64 0, .int .i64 0, .int .i64 0, .bool false, .slice none 0 0, .slice none 0 0]) (t := 37) ?hr ?_; (case hd => rfl); (case hg => rfl); (case hr => first | (go_simp; done) | (go_simp; rfl)); intro g8 hg w8m hbox hb; have ZB := Aside0.mk hb; have ZX := Aside0.mk hbox; have X8g := Aside0.mk (show w7.heap.size ≤ g8 from by rw [hg]; exact Nat.le_refl _); have x_zc0 : w8m.cell? ⟨g8, 0, none⟩ = some (.int .i64 0) := (blk_cell ZX.out 0).trans rfl; have x_zf0 := blk_frozen ZX.out 0; have x_zc1 : w8m.cell? ⟨g8, 1, none⟩ = some (.int .i64 0) := (blk_cell ZX.out 1).trans rfl; have x_zf1 := blk_frozen ZX.out 1; have x_zc2 : w8m.cell? ⟨g8, 2, none⟩ = some (.int .i64 0) := (blk_cell ZX.out 2).trans rfl; have x_zf2 := blk_frozen ZX.out 2; have x_zc3 : w8m.cell? ⟨g8, 3, none⟩ = some (.int .i64 0) := (blk_cell ZX.out 3).trans rfl; have x_zf3 := blk_frozen ZX.out 3; have x_zc4 : w8m.cell? ⟨g8, 4, none⟩ = some (.int .i64 0) := (blk_cell ZX.out 4).trans rfl; have x_zf4 := blk_frozen ZX.out 4; have x_zc5 : w8m.cell? ⟨g8, 5, none⟩ = some (.int .i64 0) := (blk_cell ZX.out 5).trans rfl; have x_zf5 := blk_frozen ZX.out 5; have x_zc6 : w8m.cell? ⟨g8, 6, none⟩ = some (.int .i64 0) := (blk_cell ZX.out 6).trans rfl; have x_zf6 := blk_frozen ZX.out 6; have x_zc7 : w8m.cell? ⟨g8, 7, none⟩ = some (.int .i64 0) := (blk_cell ZX.out 7).trans rfl; have x_zf7 := blk_frozen ZX.out 7; have x_zc8 : w8m.cell? ⟨g8, 8, none⟩ = some (.int .i64 0) := (blk_cell ZX.out 8).trans rfl; have x_zf8 := blk_frozen ZX.out 8; have x_zc9 : w8m.cell? ⟨g8, 9, none⟩ = some (.int .i64 0) := (blk_cell ZX.out 9).trans rfl; have x_zf9 := blk_frozen ZX.out 9; have x_zc10 : w8m.cell? ⟨g8, 10, none⟩ = some (.int .i64 0) := (blk_cell ZX.out 10).trans rfl; have x_zf10 := blk_frozen ZX.out 10; have x_zc11 : w8m.cell? ⟨g8, 11, none⟩ = some (.int .i64 0) := (blk_cell ZX.out 11).trans rfl; have x_zf11 := blk_frozen ZX.out 11; have x_zc12 : w8m.cell? ⟨g8, 12, none⟩ = some (.bool false) := (blk_cell ZX.out 12).trans rfl; have x_zf12 := blk_frozen ZX.out 12; have x_zc13 : w8m.cell? ⟨g8, 13, none⟩ = some (.slice none 0 0) := (blk_cell ZX.out 13).trans rfl; have x_zf13 := blk_frozen ZX.out 13; have x_zc14 : w8m.cell? ⟨g8, 14, none⟩ = some (.slice none 0 0) := (blk_cell ZX.out 14).trans rfl; have x_zf14 := blk_frozen ZX.out 14; clear hb hg hbox))
  have NB8 := Aside0.mk (below_setB (below_setB (below_setB (below_setB (below_setB (below_setB (below_setB (below_setB (below_setB (below_setB (below_setB (below_setB (below_setB (below_setB (below_setB ZB.out (p := ⟨g8, 0, none⟩) X8g.out (.int .i64 0)) (p := ⟨g8, 1, none⟩) X8g.out (.int .i64 0)) (p := ⟨g8, 2, none⟩) X8g.out (.int .i64 0)) (p := ⟨g8, 3, none⟩) X8g.out (.int .i64 0)) (p := ⟨g8, 4, none⟩) X8g.out (.int .i64 0)) (p := ⟨g8, 5, none⟩) X8g.out (.int .i64 0)) (p := ⟨g8, 6, none⟩) X8g.out (.int .i64 0)) (p := ⟨g8, 7, none⟩) X8g.out (.int .i64 0)) (p := ⟨g8, 8, none⟩) X8g.out (.int .i64 0)) (p := ⟨g8, 9, none⟩) X8g.out (.int .i64 0)) (p := ⟨g8, 10, none⟩) X8g.out (.int .i64 0)) (p := ⟨g8, 11, none⟩) X8g.out (.int .i64 0)) (p := ⟨g8, 12, none⟩) X8g.out (.bool false)) (p := ⟨g8, 13, none⟩) X8g.out (.slice none 0 0)) (p := ⟨g8, 14, none⟩) X8g.out (.slice none 0 0)); have X8 := Aside0.mk (blk_put (blk_put (blk_put (blk_put (blk_put (blk_put (blk_put (blk_put (blk_put (blk_put (blk_put (blk_put (blk_put (blk_put (blk_put ZX.out 0 (.int .i64 0) (cs' := #[.int .i64 0, .int .i64 0, .int .i64 0, .int .i64 0, .int .i64 0, .int .i64 0, .int .i64 0, .int .i64 0, .int .i64 0, .int .i64 0, .int .i64 0, .int .i64 0, .bool false, .slice none 0 0, .slice none 0 0]) rfl) 1 (.int .i64 0) (cs' := #[.int .i64 0, .int .i64 0, .int .i64 0, .int .i64 0, .int .i64 0, .int .i64 0, .int .i64 0, .int .i64 0, .int .i64 0, .int .i64 0, .int .i64 0, .int .i64 0, .bool false, .slice none 0 0, .slice none 0 0]) rfl) 2 (.int .i64 0) (cs' := #[.int .i64 0, .int .i64 0, .int .i64 0, .int .i64 0, .int .i64 0, .int .i64 0, .int .i64 0, .int .i64 0, .int .i64 0, .int .i64 0, .int .i64 0, .int .i64 0, .bool false, .slice none 0 0, .slice none 0 0]) rfl) 3 (.int .i64 0) (cs' := #[.int .i64 0, .int .i64 0, .int .i64 0, .int .i64 0, .int .i64 0, .int .i64 0, .int .i64 0, .int .i64 0, .int .i64 0, .int .i64 0, .int .i64 0, .int .i64 0, .bool false, .slice none 0 0, .slice none 0 0]) rfl) 4 (.int .i64 0) (cs' := #[.int .i64 0, .int .i64 0, .int .i64 0, .int .i64 0, .int .i64 0, .int .i64 0, .int .i64 0, .int .i64 0, .int .i64 0, .int .i64 0, .int .i64 0, .int .i64 0, .bool false, .slice none 0 0, .slice none 0 0]) rfl) 5 (.int .i64 0) (cs' := #[.int .i64 0, .int .i64 0, .int .i64 0, .int .i64 0, .int .i64 0, .int .i64 0, .int .i64 0, .int .i64 0, .int .i64 0, .int .i64 0, .int .i64 0, .int .i64 0, .bool false, .slice none 0 0, .slice none 0 0]) rfl) 6 (.int .i64 0) (cs' := #[.int .i64 0, .int .i64 0, .int .i64 0, .int .i64 0, .int .i64 0, .int .i64 0, .int .i64 0, .int .i64 0, .int .i64 0, .int .i64 0, .int .i64 0, .int .i64 0, .bool false, .slice none 0 0, .slice none 0 0]) rfl) 7 (.int .i64 0) (cs' := #[.int .i64 0, .int .i64 0, .int .i64 0, .int .i64 0, .int .i64 0, .int .i64 0, .int .i64 0, .int .i64 0, .int .i64 0, .int .i64 0, .int .i64 0, .int .i64 0, .bool false, .slice none 0 0, .slice none 0 0]) rfl) 8 (.int .i64 0) (cs' := #[.int .i64 0, .int .i64 0, .int .i64 0, .int .i64 0, .int .i64 0, .int .i64 0, .int .i64 0, .int .i64 0, .int .i64 0, .int .i64 0, .int .i64 0, .int .i64 0, .bool false, .slice none 0 0, .slice none 0 0]) rfl) 9 (.int .i64 0) (cs' := #[.int .i64 0, .int .i64 0, .int .i64 0, .int .i64 0, .int .i64 0, .int .i64 0, .int .i64 0, .int .i64 0, .int .i64 0, .int .i64 0, .int .i64 0, .int .i64 0, .bool false, .slice none 0 0, .slice none 0 0]) rfl) 10 (.int .i64 0) (cs' := #[.int .i64 0, .int .i64 0, .int .i64 0, .int .i64 0, .int .i64 0, .int .i64 0, .int .i64 0, .int .i64 0, .int .i64 0, .int .i64 0, .int .i64 0, .int .i64 0, .bool false, .slice none 0 0, .slice none 0 0]) rfl) 11 (.int .i64 0) (cs' := #[.int .i64 0, .int .i64 0, .int .i64 0, .int .i64 0, .int .i64 0, .int .i64 0, .int .i64 0, .int .i64 0, .int .i64 0, .int .i64 0, .int .i64 0, .int .i64 0, .bool false, .slice none 0 0, .slice none 0 0]) rfl) 12 (.bool false) (cs' := #[.int .i64 0, .int .i64 0, .int .i64 0, .int .i64 0, .int .i64 0, .int .i64 0, .int .i64 0, .int .i64 0, .int .i64 0, .int .i64 0, .int .i64 0, .int .i64 0, .bool false, .slice none 0 0, .slice none 0 0]) rfl) 13 (.slice none 0 0) (cs' := #[.int .i64 0, .int .i64 0, .int .i64 0, .int .i64 0, .int .i64 0, .int .i64 0, .int .i64 0, .int .i64 0, .int .i64 0, .int .i64 0, .int .i64 0, .int .i64 0, .bool false, .slice none 0 0, .slice none 0 0]) rfl) 14 (.slice none 0 0) (cs' := #[.int .i64 0, .int .i64 0, .int .i64 0, .int .i64 0, .int .i64 0, .int .i64 0, .int .i64 0, .int .i64 0, .int .i64 0, .int .i64 0, .int .i64 0, .int .i64 0, .bool false, .slice none 0 0, .slice none 0 0]) rfl); clear ZB ZX x_zc0 x_zf0 x_zc1 x_zf1 x_zc2 x_zf2 x_zc3 x_zf3 x_zc4 x_zf4 x_zc5 x_zf5 x_zc6 x_zf6 x_zc7 x_zf7 x_zc8 x_zf8 x_zc9 x_zf9 x_zc10 x_zf10 x_zc11 x_zf11 x_zc12 x_zf12 x_zc13 x_zf13 x_zc14 x_zf14; generalize (((((((((((((((w8m.setCell ⟨g8, 0, none⟩ (.int .i64 0)).setCell ⟨g8, 1, none⟩ (.int .i64 0)).setCell ⟨g8, 2, none⟩ (.int .i64 0)).setCell ⟨g8, 3, none⟩ (.int .i64 0)).setCell ⟨g8, 4, none⟩ (.int .i64 0)).setCell ⟨g8, 5, none⟩ (.int .i64 0)).setCell ⟨g8, 6, none⟩ (.int .i64 0)).setCell ⟨g8, 7, none⟩ (.int .i64 0)).setCell ⟨g8, 8, none⟩ (.int .i64 0)).setCell ⟨g8, 9, none⟩ (.int .i64 0)).setCell ⟨g8, 10, none⟩ (.int .i64 0)).setCell ⟨g8, 11, none⟩ (.int .i64 0)).setCell ⟨g8, 12, none⟩ (.bool false)).setCell ⟨g8, 13, none⟩ (.slice none 0 0)).setCell ⟨g8, 14, none⟩ (.slice none 0 0)) = w8 at NB8 X8 ⊢; have N8 := Aside0.mk (N7.out.below NB8.out); 
  refine start_ (n := 26) (S := fun w' => w'.cell? ⟨g8, 2, none⟩ = some (.int .i64 0)) (ds := []) #[false, false, false, false, false, false, false, false, false, false, false, false, false, false, false, false, false, false, false, false, false, false, false, false, false, false] (by kernel_rfl) rfl rfl ((blk_cell (blk_drew X8.out) 2).trans rfl) (fun hHeld => ?_)
  refine pure_ (i := 0) (N := some 136) (v := ?_) (a' := ?_) #[true, false, false, false, false, false, false, false, false, false, false, false, false, false, false, false, false, false, false, false, false, false, false, false, false, false] rfl rfl (by kernel_rfl) (fun _ _ _ h => h) (Or.inl ⟨by rfl, ?_⟩) ?_ ?_
  rotate_left
  · intro w'
    go_simp
    with_reducible rfl
  rotate_left
  · simp only [Act.put, List.setIfInBounds_toArray, List.set_cons_zero, List.set_cons_succ, i64_w, i32_w]
    rfl
  refine pure_ (i := 1) (N := some 137) (v := ?_) (a' := ?_) #[true, true, false, false, false, false, false, false, false, false, false, false, false, false, false, false, false, false, false, false, false, false, false, false, false, false] rfl rfl (by kernel_rfl) (fun _ _ _ h => h) (Or.inl ⟨by rfl, ?_⟩) ?_ ?_
  rotate_left
  · intro w'
    go_simp
    with_reducible rfl
  rotate_left
  · simp only [Act.put, List.setIfInBounds_toArray, List.set_cons_zero, List.set_cons_succ, i64_w, i32_w]
    rfl
  refine pure_ (i := 2) (N := some 138) (v := ?_) (a' := ?_) #[true, true, true, false, false, false, false, false, false, false, false, false, false, false, false, false, false, false, false, false, false, false, false, false, false, false] rfl rfl (by kernel_rfl) (fun _ _ _ h => h) (Or.inl ⟨by rfl, ?_⟩) ?_ ?_
  rotate_left
  · intro w'
    go_simp
    with_reducible rfl
  rotate_left
  · simp only [Act.put, List.setIfInBounds_toArray, List.set_cons_zero, List.set_cons_succ, i64_w, i32_w]
    rfl
  refine pure_ (i := 3) (N := some 139) (v := ?_) (a' := ?_) #[true, true, true, true, false, false, false, false, false, false, false, false, false, false, false, false, false, false, false, false, false, false, false, false, false, false] rfl rfl (by kernel_rfl) (fun _ _ _ h => h) (Or.inl ⟨by rfl, ?_⟩) ?_ ?_
  rotate_left
  · intro w'
    go_simp
    with_reducible rfl
  rotate_left
  · simp only [Act.put, List.setIfInBounds_toArray, List.set_cons_zero, List.set_cons_succ, i64_w, i32_w]
    rfl
  refine pure_ (i := 4) (N := some 140) (v := ?_) (a' := ?_) #[true, true, true, true, true, false, false, false, false, false, false, false, false, false, false, false, false, false, false, false, false, false, false, false, false, false] rfl rfl (by kernel_rfl) (fun _ _ _ h => h) (Or.inl ⟨by rfl, ?_⟩) ?_ ?_
  rotate_left
  · intro w'
    go_simp
    with_reducible rfl
  rotate_left
  · simp only [Act.put, List.setIfInBounds_toArray, List.set_cons_zero, List.set_cons_succ, i64_w, i32_w]
    rfl
  refine pure_ (i := 5) (N := some 141) (v := ?_) (a' := ?_) #[true, true, true, true, true, true, false, false, false, false, false, false, false, false, false, false, false, false, false, false, false, false, false, false, false, false] rfl rfl (by kernel_rfl) (fun _ _ _ h => h) (Or.inl ⟨by rfl, ?_⟩) ?_ ?_
  rotate_left
  · intro w'
    go_simp
    with_reducible rfl
  rotate_left
  · simp only [Act.put, List.setIfInBounds_toArray, List.set_cons_zero, List.set_cons_succ, i64_w, i32_w]
    rfl
  refine pure_ (i := 6) (N := some 142) (v := ?_) (a' := ?_) #[true, true, true, true, true, true, true, false, false, false, false, false, false, false, false, false, false, false, false, false, false, false, false, false, false, false] rfl rfl (by kernel_rfl) (fun _ _ _ h => h) (Or.inl ⟨by rfl, ?_⟩) ?_ ?_
  rotate_left
  · intro w'
    go_simp
    with_reducible rfl
  rotate_left
  · simp only [Act.put, List.setIfInBounds_toArray, List.set_cons_zero, List.set_cons_succ, i64_w, i32_w]
    rfl
  refine pure_ (i := 7) (N := some 143) (v := undef) (a' := ?_) #[true, true, true, true, true, true, true, true, false, false, false, false, false, false, false, false, false, false, false, false, false, false, false, false, false, false] rfl rfl (by kernel_rfl) (fun _ _ _ h => h) (Or.inr ⟨by rfl, rfl⟩) ?_ ?_
  rotate_left
  · simp only [Act.put, List.setIfInBounds_toArray, List.set_cons_zero, List.set_cons_succ, i64_w, i32_w]
    rfl
  refine pure_ (i := 8) (N := some 144) (v := undef) (a' := ?_) #[true, true, true, true, true, true, true, true, true, false, false, false, false, false, false, false, false, false, false, false, false, false, false, false, false, false] rfl rfl (by kernel_rfl) (fun _ _ _ h => h) (Or.inr ⟨by rfl, rfl⟩) ?_ ?_
  rotate_left
  · simp only [Act.put, List.setIfInBounds_toArray, List.set_cons_zero, List.set_cons_succ, i64_w, i32_w]
    rfl
  refine pure_ (i := 9) (N := some 145) (v := undef) (a' := ?_) #[true, true, true, true, true, true, true, true, true, true, false, false, false, false, false, false, false, false, false, false, false, false, false, false, false, false] rfl rfl (by kernel_rfl) (fun _ _ _ h => h) (Or.inr ⟨by rfl, rfl⟩) ?_ ?_
  rotate_left
  · simp only [Act.put, List.setIfInBounds_toArray, List.set_cons_zero, List.set_cons_succ, i64_w, i32_w]
    rfl
  refine pure_ (i := 10) (N := some 146) (v := undef) (a' := ?_) #[true, true, true, true, true, true, true, true, true, true, true, false, false, false, false, false, false, false, false, false, false, false, false, false, false, false] rfl rfl (by kernel_rfl) (fun _ _ _ h => h) (Or.inr ⟨by rfl, rfl⟩) ?_ ?_
  rotate_left
  · simp only [Act.put, List.setIfInBounds_toArray, List.set_cons_zero, List.set_cons_succ, i64_w, i32_w]
    rfl
  refine pure_ (i := 11) (N := some 147) (v := undef) (a' := ?_) #[true, true, true, true, true, true, true, true, true, true, true, true, false, false, false, false, false, false, false, false, false, false, false, false, false, false] rfl rfl (by kernel_rfl) (fun _ _ _ h => h) (Or.inr ⟨by rfl, rfl⟩) ?_ ?_
  rotate_left
  · simp only [Act.put, List.setIfInBounds_toArray, List.set_cons_zero, List.set_cons_succ, i64_w, i32_w]
    rfl
  refine pure_ (i := 12) (N := some 148) (v := undef) (a' := ?_) #[true, true, true, true, true, true, true, true, true, true, true, true, true, false, false, false, false, false, false, false, false, false, false, false, false, false] rfl rfl (by kernel_rfl) (fun _ _ _ h => h) (Or.inr ⟨by rfl, rfl⟩) ?_ ?_
  rotate_left
  · simp only [Act.put, List.setIfInBounds_toArray, List.set_cons_zero, List.set_cons_succ, i64_w, i32_w]
    rfl
  refine pure_ (i := 13) (N := some 149) (v := undef) (a' := ?_) #[true, true, true, true, true, true, true, true, true, true, true, true, true, true, false, false, false, false, false, false, false, false, false, false, false, false] rfl rfl (by kernel_rfl) (fun _ _ _ h => h) (Or.inr ⟨by rfl, rfl⟩) ?_ ?_
  rotate_left
  · simp only [Act.put, List.setIfInBounds_toArray, List.set_cons_zero, List.set_cons_succ, i64_w, i32_w]
    rfl
  refine pure_ (i := 14) (N := some 150) (v := undef) (a' := ?_) #[true, true, true, true, true, true, true, true, true, true, true, true, true, true, true, false, false, false, false, false, false, false, false, false, false, false] rfl rfl (by kernel_rfl) (fun _ _ _ h => h) (Or.inr ⟨by rfl, rfl⟩) ?_ ?_
  rotate_left
  · simp only [Act.put, List.setIfInBounds_toArray, List.set_cons_zero, List.set_cons_succ, i64_w, i32_w]
    rfl
  refine pure_ (i := 15) (N := some 151) (v := ?_) (a' := ?_) #[true, true, true, true, true, true, true, true, true, true, true, true, true, true, true, true, false, false, false, false, false, false, false, false, false, false] rfl rfl (by kernel_rfl) (fun _ _ _ h => h) (Or.inl ⟨by rfl, ?_⟩) ?_ ?_
  rotate_left
  · intro w'
    go_simp
    with_reducible rfl
  rotate_left
  · simp only [Act.put, List.setIfInBounds_toArray, List.set_cons_zero, List.set_cons_succ, i64_w, i32_w]
    rfl
  refine pure_ (i := 16) (N := some 152) (v := ?_) (a' := ?_) #[true, true, true, true, true, true, true, true, true, true, true, true, true, true, true, true, true, false, false, false, false, false, false, false, false, false] rfl rfl (by kernel_rfl) (fun _ _ _ h => h) (Or.inl ⟨by rfl, ?_⟩) ?_ ?_
  rotate_left
  · intro w'
    go_simp
    with_reducible rfl
  rotate_left
  · simp only [Act.put, List.setIfInBounds_toArray, List.set_cons_zero, List.set_cons_succ, i64_w, i32_w]
    rfl
  refine pure_ (i := 17) (N := some 153) (v := ?_) (a' := ?_) #[true, true, true, true, true, true, true, true, true, true, true, true, true, true, true, true, true, true, false, false, false, false, false, false, false, false] rfl rfl (by kernel_rfl) (fun _ _ _ h => h) (Or.inl ⟨by rfl, ?_⟩) ?_ ?_
  rotate_left
  · intro w'
    go_simp
    with_reducible rfl
  rotate_left
  · simp only [Act.put, List.setIfInBounds_toArray, List.set_cons_zero, List.set_cons_succ, i64_w, i32_w]
    rfl
  refine pure_ (i := 18) (N := some 154) (v := ?_) (a' := ?_) #[true, true, true, true, true, true, true, true, true, true, true, true, true, true, true, true, true, true, true, false, false, false, false, false, false, false] rfl rfl (by kernel_rfl) (fun _ _ _ h => h) (Or.inl ⟨by rfl, ?_⟩) ?_ ?_
  rotate_left
  · intro w'
    go_simp
    with_reducible rfl
  rotate_left
  · simp only [Act.put, List.setIfInBounds_toArray, List.set_cons_zero, List.set_cons_succ, i64_w, i32_w]
    rfl
  refine pure_ (i := 19) (N := some 155) (v := ?_) (a' := ?_) #[true, true, true, true, true, true, true, true, true, true, true, true, true, true, true, true, true, true, true, true, false, false, false, false, false, false] rfl rfl (by kernel_rfl) (fun _ _ _ h => h) (Or.inl ⟨by rfl, ?_⟩) ?_ ?_
  rotate_left
  · intro w'
    go_simp
    with_reducible rfl
  rotate_left
  · simp only [Act.put, List.setIfInBounds_toArray, List.set_cons_zero, List.set_cons_succ, i64_w, i32_w]
    rfl
  refine pure_ (i := 20) (N := some 156) (v := ?_) (a' := ?_) #[true, true, true, true, true, true, true, true, true, true, true, true, true, true, true, true, true, true, true, true, true, false, false, false, false, false] rfl rfl (by kernel_rfl) (fun _ _ _ h => h) (Or.inl ⟨by rfl, ?_⟩) ?_ ?_
  rotate_left
  · intro w'
    go_simp
    with_reducible rfl
  rotate_left
  · simp only [Act.put, List.setIfInBounds_toArray, List.set_cons_zero, List.set_cons_succ, i64_w, i32_w]
    rfl
  refine pure_ (i := 21) (N := some 157) (v := ?_) (a' := ?_) #[true, true, true, true, true, true, true, true, true, true, true, true, true, true, true, true, true, true, true, true, true, true, false, false, false, false] rfl rfl (by kernel_rfl) (fun _ _ _ h => h) (Or.inl ⟨by rfl, ?_⟩) ?_ ?_
  rotate_left
  · intro w'
    go_simp
    with_reducible rfl
  rotate_left
  · simp only [Act.put, List.setIfInBounds_toArray, List.set_cons_zero, List.set_cons_succ, i64_w, i32_w]
    rfl
  refine take_ (i := 22) (N := some 158) (v := ?_) (a' := ?_) #[true, true, true, true, true, true, true, true, true, true, true, true, true, true, true, true, true, true, true, true, true, true, true, false, false, false] rfl rfl (by kernel_rfl) (fun _ _ _ h => h) (Or.inl ⟨by rfl, ?_⟩) hHeld ?_ ?_
  rotate_left
  · intro w' s0
    go_simp
    with_reducible rfl
  rotate_left
  · simp only [Act.put, List.setIfInBounds_toArray, List.set_cons_zero, List.set_cons_succ, i64_w, i32_w]
    rfl
  refine pure_ (i := 23) (N := some 159) (v := ?_) (a' := ?_) #[true, true, true, true, true, true, true, true, true, true, true, true, true, true, true, true, true, true, true, true, true, true, true, true, false, false] rfl rfl (by kernel_rfl) (fun _ _ _ h => h) (Or.inl ⟨by rfl, ?_⟩) ?_ ?_
  rotate_left
  · intro w'
    go_simp
    with_reducible rfl
  rotate_left
  · simp only [Act.put, List.setIfInBounds_toArray, List.set_cons_zero, List.set_cons_succ, i64_w, i32_w]
    rfl
  refine pure_ (i := 24) (N := some 160) (v := ?_) (a' := ?_) #[true, true, true, true, true, true, true, true, true, true, true, true, true, true, true, true, true, true, true, true, true, true, true, true, true, false] rfl rfl (by kernel_rfl) (fun _ _ _ h => h) (Or.inl ⟨by rfl, ?_⟩) ?_ ?_
  rotate_left
  · intro w'
    go_simp
    with_reducible rfl
  rotate_left
  · simp only [Act.put, List.setIfInBounds_toArray, List.set_cons_zero, List.set_cons_succ, i64_w, i32_w]
    rfl
  refine pure_ (i := 25) (N := some 161) (v := ?_) (a' := ?_) #[true, true, true, true, true, true, true, true, true, true, true, true, true, true, true, true, true, true, true, true, true, true, true, true, true, true] rfl rfl (by kernel_rfl) (fun _ _ _ h => h) (Or.inl ⟨by rfl, ?_⟩) ?_ ?_
  rotate_left
  · intro w'
    go_simp
    with_reducible rfl
  rotate_left
  · simp only [Act.put, List.setIfInBounds_toArray, List.set_cons_zero, List.set_cons_succ, i64_w, i32_w]
    rfl
  refine done_ (by kernel_rfl) ?_
  have N9 := Aside0.mk N8.out.drew
  go_wp2_with fail
  clear d1 d2 d3 q1 q2 q3 y0 y1 y2
  refine (net_Len N9.out.net).mono ?_; rintro x w90 ⟨rfl, hb⟩; have N90 := Aside0.mk (N9.out.below hb); clear hb
  go_wp2_with fail
  exact HK.out _ _ _ _ _ _ _ _ _ _ _ _ _ _ _ _ _ _ _ _ _ _ _ _ _ _ _ _ _ _ _ _ _ _ _ _ _ _ _ _ _ _ _ _ _ _ _ _ _ _ _ _ _ _ _ _ _ _ _ _ _ _ _ _ _ _ _ _ _ _ _ _ _ _ _ _ _ _ _ _ _ _ _ _ _ _ _ _ _ _ _ _ _ _ _ _ _ _ _ _ _ _ _ _ _ _ _ _ _ _ _ _ _ _ _ _ _ _ _ _ _ _ _ _ _ _ _ _ _ _ _ _ _ _ _ _ _ _ _ _ _ _ _ _ _ _ _ _ _ _ _ _ _ w90 (ms) (by first | rw [b2] | rfl) (by have := HL.out; omega) (by first | exact N90.out.any | (have h := N90.out.any; simp only [List.length_append, List.length_singleton] at h ⊢; exact h))
set_option maxHeartbeats 16000000 in
set_option maxRecDepth 100000 in
theorem np_4neg {w wr : World} {l0 : List S28} {c0 g3 i c4 c2 : Nat} {ms ps : List S37} {A4 A2 : Option Addr} {ad0 : Addr} {ok_ oi : Int} {u2 u6 u7 u8 u9 u10 u11 u12 u24 u25 u26 u27 u28 u29 u30 u31 u32 u33 u34 u35 u36 u37 u38 u39 u40 u41 u42 u43 u44 u45 u46 u47 u48 u49 u50 u51 u52 u53 u54 u55 u56 u57 u58 u59 u60 u61 u62 u63 u64 u65 u66 u67 u68 u69 u70 u71 u72 u73 u74 u75 u76 u77 u78 u79 u80 u81 u82 u83 u84 u85 u86 u87 u88 u89 u90 u91 u92 u93 u94 u95 u96 u97 u98 u99 u100 u101 u102 u103 u104 u105 u106 u107 u108 u109 u110 u111 u112 u113 u114 u115 u116 u117 u118 u119 u120 u121 u122 u123 u124 u125 u126 u127 u128 u129 u130 u131 u132 u133 u134 u135 u136 u137 u138 u139 u140 u141 u142 u143 u144 u145 u146 u147 u148 u149 u150 u151 u152 u153 u154 u155 u156 u157 u158 u159 u160 u161 u162 u163 u164 u165 u166 : Value} {K K1 : Act → World → Prop}
    (hi : i < l0.length) (h60 : l0.length ≤ 60) (hl : ms.length ≤ 50 * i) (n4 : MN w wr g3 (.slice A4 ms.length c4) ms ms (fun _ => True))
    (y0 : wr.cell? (ad0.add (i * 3)) = some (.int .i64 ok_)) (y1 : wr.cell? ⟨(ad0.add (i * 3)).block, (ad0.add (i * 3)).off + 1, none⟩ = some (.int .i64 oi)) (y2 : wr.cell? ⟨(ad0.add (i * 3)).block, (ad0.add (i * 3)).off + 2, none⟩ = some (.slice A2 ps.length c2))
    (l2 : ps.length ≤ c2) (g2 : Kd.C k37 w A2 ps.length ps) (hfp : ∀ y ∈ ps, Fit y) (hk0 : ¬ok_ = 0) (hk1 : ¬ok_ = 1) (hk2 : ¬ok_ = 2) (hk3 : ¬ok_ = 3) (hth : ¬0 ≤ oi)
    (hK : ∀ (u2 u6 u7 u8 u9 u10 u11 u12 u24 u25 u26 u27 u28 u29 u30 u31 u32 u33 u34 u35 u36 u37 u38 u39 u40 u41 u42 u43 u44 u45 u46 u47 u48 u49 u50 u51 u52 u53 u54 u55 u56 u57 u58 u59 u60 u61 u62 u63 u64 u65 u66 u67 u68 u69 u70 u71 u72 u73 u74 u75 u76 u77 u78 u79 u80 u81 u82 u83 u84 u85 u86 u87 u88 u89 u90 u91 u92 u93 u94 u95 u96 u97 u98 u99 u100 u101 u102 u103 u104 u105 u106 u107 u108 u109 u110 u111 u112 u113 u114 u115 u116 u117 u118 u119 u120 u121 u122 u123 u124 u125 u126 u127 u128 u129 u130 u131 u132 u133 u134 u135 u136 u137 u138 u139 u140 u141 u142 u143 u144 u145 u146 u147 u148 u149 u150 u151 u152 u153 u154 u155 u156 u157 u158 u159 u160 u161 u162 u163 u164 u165 u166 v4 v23 : Value) (w' : World) (ms' : List S37), v23 = .int .i64 ((i + 1 : Nat) : Int) → ms'.length ≤ 50 * (i + 1) → MN w w' g3 v4 ms' ms' (fun _ => True) → K ⟨#[.slice (some ad0) l0.length c0, undef, u2, .pointer (some ⟨g3, 0, none⟩), v4, undef, u6, u7, u8, u9, u10, u11, u12, undef, undef, undef, .bool true, .bool false, .slice (some ad0) l0.length c0, .int .i64 (l0.length : Int), .bool false, .slice (some ad0) l0.length c0, .int .i64 (l0.length : Int), v23, u24, u25, u26, u27, u28, u29, u30, u31, u32, u33, u34, u35, u36, u37, u38, u39, u40, u41, u42, u43, u44, u45, u46, u47, u48, u49, u50, u51, u52, u53, u54, u55, u56, u57, u58, u59, u60, u61, u62, u63, u64, u65, u66, u67, u68, u69, u70, u71, u72, u73, u74, u75, u76, u77, u78, u79, u80, u81, u82, u83, u84, u85, u86, u87, u88, u89, u90, u91, u92, u93, u94, u95, u96, u97, u98, u99, u100, u101, u102, u103, u104, u105, u106, u107, u108, u109, u110, u111, u112, u113, u114, u115, u116, u117, u118, u119, u120, u121, u122, u123, u124, u125, u126, u127, u128, u129, u130, u131, u132, u133, u134, u135, u136, u137, u138, u139, u140, u141, u142, u143, u144, u145, u146, u147, u148, u149, u150, u151, u152, u153, u154, u155, u156, u157, u158, u159, u160, u161, u162, u163, u164, u165, u166, undef, undef, undef, undef, undef, undef, undef, undef, undef, undef, undef, undef, undef, undef, undef, undef, undef, undef, undef, undef, undef, undef], []⟩ w') :
    Code.wp Try.prog npBody (Exit.then K (Exit.inBlock 0 (Exit.then K1 (bodyPost Try.prog Try.f3 (fun e w' => e = .returned (.bool true) ∧ Below w.heap.size w w'))))) ⟨#[.slice (some ad0) l0.length c0, undef, u2, .pointer (some ⟨g3, 0, none⟩), .slice A4 ms.length c4, undef, u6, u7, u8, u9, u10, u11, u12, undef, undef, undef, .bool true, .bool false, .slice (some ad0) l0.length c0, .int .i64 (l0.length : Int), .bool false, .slice (some ad0) l0.length c0, .int .i64 (l0.length : Int), .int .i64 (i : Int), u24, u25, u26, u27, u28, u29, u30, u31, u32, u33, u34, u35, u36, u37, u38, u39, u40, u41, u42, u43, u44, u45, u46, u47, u48, u49, u50, u51, u52, u53, u54, u55, u56, u57, u58, u59, u60, u61, u62, u63, u64, u65, u66, u67, u68, u69, u70, u71, u72, u73, u74, u75, u76, u77, u78, u79, u80, u81, u82, u83, u84, u85, u86, u87, u88, u89, u90, u91, u92, u93, u94, u95, u96, u97, u98, u99, u100, u101, u102, u103, u104, u105, u106, u107, u108, u109, u110, u111, u112, u113, u114, u115, u116, u117, u118, u119, u120, u121, u122, u123, u124, u125, u126, u127, u128, u129, u130, u131, u132, u133, u134, u135, u136, u137, u138, u139, u140, u141, u142, u143, u144, u145, u146, u147, u148, u149, u150, u151, u152, u153, u154, u155, u156, u157, u158, u159, u160, u161, u162, u163, u164, u165, u166, undef, undef, undef, undef, undef, undef, undef, undef, undef, undef, undef, undef, undef, undef, undef, undef, undef, undef, undef, undef, undef, undef], []⟩ wr := by
  have d1 : decide ((i : Int) < (l0.length : Int)) = true := decide_eq_true (by omega)
  have d2 : decide (i < l0.length) = true := decide_eq_true hi
  have d3 : (i < l0.length) = True := eq_true hi
  have hi0 : (0 : Int) ≤ (i : Int) := by omega
  have hi1 : (i : Int) < (l0.length : Int) := by omega
  have G2 := Aside0.mk g2; have FP := Aside0.mk hfp; have L2 := Aside0.mk l2; have HL := Aside0.mk hl; have N4 := Aside0.mk n4; have HK := Aside0.mk hK
  have b2 : wrap64 ((i : Int) + 1) = ((i + 1 : Nat) : Int) := by unfold wrap64; omega
  have q1 := eq_true hi0; have q2 := eq_true hi1; have q3 : decide ((0 : Int) ≤ (i : Int)) = true := decide_eq_true hi0
  have HLM := Aside0.mk (show ms.length ≤ 3000 by omega)
  have N5_ := Aside0.mk N4.out.bnd; have ZW := Aside0.mk (Nat.le_refl wr.heap.size)
  clear hi h60 hl n4 g2 hfp l2 hK hi0 hi1
  conv => arg 2; whnf
  have t0 : (ok_ == 0) = false := beq_eq_false_iff_ne.mpr hk0
  have t1 : (ok_ == 1) = false := beq_eq_false_iff_ne.mpr hk1
  have t2 : (ok_ == 2) = false := beq_eq_false_iff_ne.mpr hk2
  have t3 : (ok_ == 3) = false := beq_eq_false_iff_ne.mpr hk3
  clear hk0 hk1 hk2 hk3
  have th1 : decide (oi ≥ 0) = false := decide_eq_false hth
  have th2 : decide (0 ≤ oi) = false := decide_eq_false hth
  have HJ := Aside0.mk (show ¬(0 ≤ oi ∧ oi < (ms.length : Int)) from fun q => hth q.1)
  clear hth
  go_wp2_with (first | ((with_reducible refine gate_dst (N := 6) rfl ?_); refine box_event ?hg (N := 6) ?hd (cs := #[.int .i64 0, .int .i64 0, .slice none 0 0]) (t := 28) ?hr ?_; (case hd => rfl); (case hg => rfl); (case hr => first | (go_simp; done) | (go_simp; rfl)); intro g6 hg w5m hbox hb; have ZB := Aside0.mk hb; have ZX := Aside0.mk hbox; have X5g := Aside0.mk (show wr.heap.size ≤ g6 from by rw [hg]; exact Nat.le_refl _); have o_zc0 : w5m.cell? ⟨g6, 0, none⟩ = some (.int .i64 0) := (blk_cell ZX.out 0).trans rfl; have o_zf0 := blk_frozen ZX.out 0; have o_zc1 : w5m.cell? ⟨g6, 1, none⟩ = some (.int .i64 0) := (blk_cell ZX.out 1).trans rfl; have o_zf1 := blk_frozen ZX.out 1; have o_zc2 : w5m.cell? ⟨g6, 2, none⟩ = some (.slice none 0 0) := (blk_cell ZX.out 2).trans rfl; have o_zf2 := blk_frozen ZX.out 2; clear hb hg hbox) | ((with_reducible refine gate_dst (N := 27) rfl ?_); have NB5 := Aside0.mk (below_setB (below_setB (below_setB ZB.out (p := ⟨g6, 0, none⟩) X5g.out (.int .i64 ok_)) (p := ⟨g6, 1, none⟩) X5g.out (.int .i64 oi)) (p := ⟨g6, 2, none⟩) X5g.out (.slice A2 ps.length c2)); have X5 := Aside0.mk (blk_put (blk_put (blk_put ZX.out 0 (.int .i64 ok_) (cs' := #[.int .i64 ok_, .int .i64 0, .slice none 0 0]) rfl) 1 (.int .i64 oi) (cs' := #[.int .i64 ok_, .int .i64 oi, .slice none 0 0]) rfl) 2 (.slice A2 ps.length c2) (cs' := #[.int .i64 ok_, .int .i64 oi, .slice A2 ps.length c2]) rfl); clear ZB ZX o_zc0 o_zf0 o_zc1 o_zf1 o_zc2 o_zf2; generalize (((w5m.setCell ⟨g6, 0, none⟩ (.int .i64 ok_)).setCell ⟨g6, 1, none⟩ (.int .i64 oi)).setCell ⟨g6, 2, none⟩ (.slice A2 ps.length c2)) = w5 at NB5 X5 ⊢; have N5 := Aside0.mk (N5_.out.below NB5.out); have o_c0 : w5.cell? ⟨g6, 0, none⟩ = some (.int .i64 ok_) := (blk_cell X5.out 0).trans rfl; have o_f0 := blk_frozen X5.out 0; have o_c1 : w5.cell? ⟨g6, 1, none⟩ = some (.int .i64 oi) := (blk_cell X5.out 1).trans rfl; have o_f1 := blk_frozen X5.out 1; have o_c2 : w5.cell? ⟨g6, 2, none⟩ = some (.slice A2 ps.length c2) := (blk_cell X5.out 2).trans rfl; have o_f2 := blk_frozen X5.out 2))
  clear d1 d2 d3 q1 q2 q3 y0 y1 y2
  refine (net_Len N5.out.net).mono ?_; rintro x w90 ⟨rfl, hb⟩; have N90 := Aside0.mk (N5.out.below hb); clear hb
  go_wp2_with fail
  exact HK.out _ _ _ _ _ _ _ _ _ _ _ _ _ _ _ _ _ _ _ _ _ _ _ _ _ _ _ _ _ _ _ _ _ _ _ _ _ _ _ _ _ _ _ _ _ _ _ _ _ _ _ _ _ _ _ _ _ _ _ _ _ _ _ _ _ _ _ _ _ _ _ _ _ _ _ _ _ _ _ _ _ _ _ _ _ _ _ _ _ _ _ _ _ _ _ _ _ _ _ _ _ _ _ _ _ _ _ _ _ _ _ _ _ _ _ _ _ _ _ _ _ _ _ _ _ _ _ _ _ _ _ _ _ _ _ _ _ _ _ _ _ _ _ _ _ _ _ _ _ _ _ _ _ w90 (ms) (by first | rw [b2] | rfl) (by have := HL.out; omega) (by first | exact N90.out.any | (have h := N90.out.any; simp only [List.length_append, List.length_singleton] at h ⊢; exact h))
end Go.Proofs.Ythgdojaildccaaa.Pure
